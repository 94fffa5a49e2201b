/- A part of the proof of HedgeFills of layer 22: what the functions compute, in plain words. -/
import Derived.Test.YtocmlaipoebfeaaGreatPlain7
import Derived.Test.YtocmlaipoebfeaaGreatPlain4
set_option linter.all false
section
namespace VM
open Go VM.F
theorem Sn(N:Nat)(s:aM)(k:Int):Ok (fun _=>True) (VE N s k):=by
 unfold VE
 repeat' first|exact dw|refine ok_eq (fun _=> ?_) (fun _=> ?_)
theorem ta(N:Nat)(hN:200000≤N){s:aM}{m:Nat}(hm:m≤50000)(hs:GS m s)(k:Int):Ok (fun _=>True) (E4 N s k):=by
 unfold E4
 exact af (ni N hN hm hs.2.2.1.1 _) fun _ _=>dw
theorem So(N:Nat)(hN:200000≤N){s:aM}{m:Nat}(hm:m≤50000)(hs:GS m s)(k:Int):Ok (fun _=>True) (Sp N s k):=by
 unfold Sp
 exact af (s4 N hN hm hs.2.2.1.2.1 _) fun _ _=>dw
theorem VF(N:Nat)(hN:4000000≤N){s:aM}{m:Nat}(h2:200≤m)(hm:m≤50000)(hs:GS m s)(a b c d:Int){q:Int}(hq:aC q):Ok (SR m) (O8 N s a b c d q):=by
 unfold O8
 exact af (a7 N hN hq) fun x hx=>af (pd N hN _ _ _ _ (Bg.mono hx (by omega))) fun p hp=>af (o9 N hN h2 hm hs.2.2.1 G.nil (gw.mono hp (by omega))) fun r hr=>ah ⟨hs.1,hs.2.1,hr,hs.2.2.2⟩
theorem Sq(N:Nat)(hN:5000000≤N){c:aa}{s:aM}{e:fO}{m:Nat}(h2:200≤m)(hm:m≤999)(hc:G 5 aq c)(hs:GS m s)(he:G 0 nj e):Ok (SR (m+1)) (qX N c s e):=by
 obtain⟨s1,s2,s3,⟨k1,k2,k3,k4,k5,k6,k7,k8,k9,Sm,Tl⟩,s5⟩:=hs
 have hs:GS m s:=⟨s1,s2,s3,⟨k1,k2,k3,k4,k5,k6,k7,k8,k9,Sm,Tl⟩,s5⟩
 have up: ∀{x:aM},GS m x→ ∀r:bW,Ok (SR (m+1)) (some (x,r)):=fun h r=>ah (P:=SR (m+1)) (G.mono (Nat.le_succ m) h)
 have i1:aC 1:=aW
 have us: ∀{τ:Ty} {x:τ.den},G m τ x→G (m+1) τ x:=fun h=>G.mono (by omega) h
 unfold qX qX.b
 have hj: ∀(S0:aM) (z:bW),Ok (SR (m+1)) (qX.Sb N c s e S0 z):=fun S0 z=>by
  unfold qX.Sb qX.Lb
  exact af (Sn N _ _) fun _ _=>bH (fun _=>ca fun r=>up hs r) fun _=>af (Sl N hN h2 hm hc hs he) fun r hr=>ah hr
 have mem: ∀{x:au},G m (.slice gC) x→G m az ((x,s.2.2.1.2):ag):=fun h=>⟨h,s3.2⟩
 have hd: ∀z:au×Int,G m (.slice gC) z.1→Ok (SR (m+1)) (cond (ay z.2 0) (cond (ay e.1 11) ((OT N c (z.1,s.2.2.1.2) e.2.1).bind fun r2=>cond (ay s.2.2.2.1.2.1 3) ((mv N s.2.2.2.1.2.2.2.2.2.2.1 e.2.1).bind fun r3=>(ea N z.2).bind fun r4=>some ((s.1,(s.2.1,(r2.1,((s.2.2.2.1.1,(s.2.2.2.1.2.1,(s.2.2.2.1.2.2.1,(s.2.2.2.1.2.2.2.1,(s.2.2.2.1.2.2.2.2.1,(s.2.2.2.1.2.2.2.2.2.1,(r3,s.2.2.2.1.2.2.2.2.2.2.2))))))),s.2.2.2.2)))),r4)) ((ea N z.2).bind fun r5=>some ((s.1,(s.2.1,(r2.1,s.2.2.2))),r5))) ((ea N z.2).bind fun r6=>some ((s.1,(s.2.1,((z.1,s.2.2.1.2),s.2.2.2))),r6))) ((ea N z.2).bind fun r7=>some ((s.1,(s.2.1,((z.1,s.2.2.1.2),s.2.2.2))),r7))):=fun z hz=>
  ok_eq (fun _=>ok_eq (fun _=>af (HX N hN c (by omega) (mem hz) _) fun b hb=>ok_eq (fun _=>af (HY N (by omega) (by omega) k7 _) fun l hl=>ca fun r=>ah ⟨s1,s2,us hb,⟨k1,k2,k3,k4,us k5,us k6,us hl,us k8,us k9,us Sm,trivial⟩,us s5⟩) fun _=>ca fun r=>ah ⟨s1,s2,us hb,(us hs).2.2.2⟩) fun _=>ca fun r=>ah ⟨s1,s2,us (mem hz),(us hs).2.2.2⟩) fun _=>ca fun r=>ah ⟨s1,s2,us (mem hz),(us hs).2.2.2⟩
 have Ng:=fun k:Int=>MX N (by omega) (m:=m) (by omega) s3.1 e.2.1 k
 refine ok_eq (fun _=>af (Ng _) fun z hz=>hd z hz) fun _=>ok_eq (fun _=>af (Ng _) fun z hz=>hd z hz) fun _=>ok_eq (fun _=> ?_) fun _=>ok_eq (fun _=> ?_) fun _=>hj _ _
 ·exact af (ta N (by omega) (by omega) hs _) fun _ _=>ok_eq (fun _=>ca fun r=>up hs r) fun _=>bE (fun _=>ca fun r=>up hs r) fun _=>af (Ng _) fun z hz=>bE (fun _=>ca fun r=>ah ⟨s1,s2,us (mem hz),(us hs).2.2.2⟩) fun _=>af (Be N (by omega) s1 hc.2.2.2.1) fun t ht=>bH (fun _=>ca fun r=>ah ⟨s1,s2,us (mem hz),(us hs).2.2.2⟩) fun _=>ah ⟨s1,s2,us (mem hz),⟨he.2.1,i1,ht,aV,G.nil,G.nil,G.nil,G.nil,G.nil,G.nil,trivial⟩,us s5⟩
 ·exact af (ta N (by omega) (by omega) hs _) fun _ _=>ok_eq (fun _=>ca fun r=>up hs r) fun _=>af (ta N (by omega) (by omega) hs _) fun _ _=>bE (fun _=>ca fun r=>up hs r) fun _=>hj _ _
theorem VG(N:Nat)(hN:5000000≤N){c:aa}{s:aM}{e:fO}{m:Nat}(h2:200≤m)(hm:m≤999)(hc:G 5 aq c)(hs:GS m s)(he:G 0 nj e):Ok (SR (m+1)) (VH N c s e):=by
 have Nq:G m aq c:=G.mono (by omega) hc
 obtain⟨s1,s2,s3,⟨k1,k2,k3,k4,k5,k6,k7,k8,k9,Sm,Tl⟩,s5⟩:=hs
 have hs:GS m s:=⟨s1,s2,s3,⟨k1,k2,k3,k4,k5,k6,k7,k8,k9,Sm,Tl⟩,s5⟩
 have us: ∀{τ:Ty} {x:τ.den},G m τ x→G (m+1) τ x:=fun h=>G.mono (by omega) h
 have J4:=us hs
 have up: ∀{x:aM},GS m x→ ∀r:bW,Ok (SR (m+1)) (some (x,r)):=fun h r=>ah (P:=SR (m+1)) (G.mono (Nat.le_succ m) h)
 have st:=fun k:Int=>ta N (by omega) (m:=m) (by omega) hs k
 have hp:=fun a b c d=>VF N (by omega) h2 (by omega) hs a b c d he.2.2.2.2.2.2.1
 have q64:=he.2.2.2.2.2.2.1
 unfold VH
 refine ok_eq (fun _=> ?_) fun _=>ok_eq (fun _=> ?_) fun _=>ok_eq (fun _=> ?_) fun _=>ok_eq (fun _=> ?_) fun _=>ok_eq (fun _=> ?_) fun _=>ok_eq (fun _=> ?_) fun _=>ok_eq (fun _=> ?_) fun _=>ok_eq (fun _=> ?_) fun _=>ok_eq (fun _=> ?_) fun _=>ok_eq (fun _=> ?_) fun _=>ok_eq (fun _=> ?_) fun _=>af (Sq N hN h2 hm hc hs he) fun r hr=>ah hr
 ·exact af (RX N (by omega) (by omega) s3.1 he.2.1) fun r hr=>ca fun _=>ah ⟨s1,s2,⟨hr,J4.2.2.1.2⟩,J4.2.2.2⟩
 ·have hx:G 0 cU (e.2.2.1,(e.2.1,(e.2.2.2.2.1,((0:Int),())))):=⟨he.2.2.1,he.2.1,he.2.2.2.2.1,aV,trivial⟩
  exact af (Vj N (by omega) (by omega) s3.1 s3.2.1 hx) fun r hr=>ca fun _=>ah ⟨s1,s2,⟨J4.2.2.1.1,hr,J4.2.2.1.2.2⟩,J4.2.2.2⟩
 ·exact af (So N (by omega) (by omega) hs _) fun _ _=>bH (fun _=>ca fun r=>up hs r) fun _=>af (hp _ _ _ _) fun r hr=>ah (us hr)
 ·exact af (H4 N hN h2 (by omega) Nq s3 _ q64) fun r hr=>ca fun z=>ah ⟨s1,s2,us hr,(us hs).2.2.2⟩
 ·exact af (st _) fun _ _=>ok_eq (fun _=>ca fun r=>up hs r) fun _=>af (st _) fun _ _=>bE (fun _=>ca fun r=>up hs r) fun _=>af (hp _ _ _ _) fun r hr=>ah (us hr)
 ·exact af (st _) fun _ _=>ok_eq (fun _=>ca fun r=>up hs r) fun _=>af (nU N (by omega) (by omega) s3.2.2.1 _ _) fun g hg=>af (a7 N (by omega) hg) fun x hx=>af (p4 N (by omega) (by omega) hx) fun x hx=>af (a7 N (by omega) q64) fun y hy=>af (pq N (by omega) (by omega) (by omega) hy hx) fun _ _=>av (fun _=>ca fun r=>up hs r) fun _=>af (hp _ _ _ _) fun r hr=>ah (us hr)
 ·exact af (RY N (by omega) (by omega) s3.2.1 q64) fun r hr=>ca fun z=>ah ⟨s1,s2,⟨us s3.1,us hr,(us s3).2.2⟩,(us hs).2.2.2⟩
 ·have hx:G 0 jg (s.2.1,(e.2.2.1,(e.2.2.2.1,(e.2.2.2.2.1,(e.2.2.2.2.2.2.1,(e.2.2.2.2.2.2.2.1,())))))):=⟨s2,he.2.2.1,he.2.2.2.1,he.2.2.2.2.1,q64,he.2.2.2.2.2.2.2.1,trivial⟩
  exact af (R5 N hN h2 (by omega) Nq s3 hx) fun r hr=>ah ⟨s1,dY _,hr,J4.2.2.2⟩
 ·exact af (So N (by omega) (by omega) hs _) fun _ _=>bH (fun _=>ca fun r=>up hs r) fun _=>af (OU N (by omega) (by omega) s3.2.2.2.2.2.1 _ _) fun r hr=>ca fun z=>ah ⟨s1,s2,⟨us s3.1,us s3.2.1,us s3.2.2.1,us s3.2.2.2.1,us s3.2.2.2.2.1,us hr,trivial⟩,(us hs).2.2.2⟩
 ·exact af (HZ N hN c h2 (by omega) s3 _ he.2.2.2.2.2.2.2.1) fun r ⟨Ef,Fo⟩=>ok_eq (fun _=>bE (fun _=>af (R7 N (by omega) h2 (by omega) Sm Fo) fun g hg=>ca fun z=>ah ⟨s1,s2,us Ef,⟨k1,k2,k3,k4,us k5,us k6,us k7,us k8,us k9,us hg,trivial⟩,us s5⟩) fun _=>ca fun z=>ah ⟨s1,s2,us Ef,(us hs).2.2.2⟩) fun _=>ca fun z=>ah ⟨s1,s2,us Ef,(us hs).2.2.2⟩
 ·exact af (Be N (by omega) s1 q64) fun t ht=>bH (fun _=>ca fun r=>up hs r) fun _=>ah ⟨ht,(us hs).2⟩
theorem VI(N:Nat)(hN:5000000≤N){c:aa}{s:aM}{e:fO}{m:Nat}(h2:200≤m)(hm:m≤999)(hc:G 5 aq c)(hs:GS m s)(he:G 0 nj e):Ok (SR (m+1)) (VJ N c s e):=by
 have bx: ∀r:bW,Ok (SR (m+1)) (some (s,r)):=fun r=>ah (P:=SR (m+1)) (G.mono (Nat.le_succ m) hs)
 unfold VJ
 exact cf (nH N (by omega) c) (bH (fun _=>bx _) fun _=>af (OS N (by omega) e) fun _ _=>bH (fun _=>bx _) fun _=>af (VG N hN h2 hm hc hs he) fun r hr=>bE (fun _=>bx _) fun _=>ah hr)
theorem acL(N:Nat)(hN:5000000≤N){c:aa}{l:gg}{m:Nat}(hm:m≤700)(hc:G 5 aq c)(hl:Pz m l):Ok (fun r=>GS 900 r.1) (Bf N c l):=by
 have Tb:=hl.1
 unfold Bf Bf.b acM
 have hb:Ok (fun r:aM×Int=>GS 5 r.1) ((gU N c).bind fun r1=>cond (!ay r1.2 0) (some (Ty.zero cz,r1.2)) (some (((0:Int),((1:Int),(r1.1,(Ty.zero lZ,(Ty.zero dZ,()))))),(0:Int)))):=af (K7 N (by omega) hc) fun b hb=>bE (fun _=>ah (G.zero 5 cz)) fun _=>ah ⟨aV,(show aC 1 from aW),hb,G.zero 5 lZ,G.zero 5 dZ,trivial⟩
 refine af hb fun b hb=>bE (fun _=>ah (G.zero 900 cz)) fun _=>bq (len:=l.length) (F:=fun n i (z:aM×aj)=>Bf.l6 N n l c (Ty.zero cz) z.1 z.2 i) (s:=(_,_)) (fun i z=>GS (200+i) z.1∧z.2.length≤i) ⟨G.mono (by omega) hb,Nat.zero_le _⟩ (by omega) (fun n i z hi hI hr=> ?_) (fun n z hI=> ?_)
 all_goals unfold Bf.l6 Bf.pn
 ·obtain⟨h1,h2⟩:=hI
  rw[al (x:=(i:Int)+1) (by omega) (by omega),ae i]
  have hx:G 0 nj (l.getD (i:Int).toNat zz8):=G.at hl _
  exact av (fun _=>ax ⟨by omega,by omega⟩ (af (VI N hN (by omega) (by omega) hc h1 hx) fun r S5=>aF (by rw[List.length_singleton];omega) (hr (r.1,z.2++[r.2]) ⟨S5,by dsimp only;rw[List.length_append,List.length_singleton];omega⟩))) fun _=>by omega
 ·exact av (fun _=>by omega) fun _=>ah (G.mono (by omega) hI.1)
theorem Lg(N:Nat)(hN:5000000≤N){d:aK}{c:aa}(h:Dk 1000 d)(hc:Cf c){HV:Int}(hm:0≤HV∧HV≤100):Ok (fun r=>GS 900 r.1∧Dk 100000 r.2) (F28 N d c HV):=by
 unfold F28
 refine af (OP N (by omega) h hc hm (by omega)) fun l ⟨hl,hd⟩=>af (gz N (by decide) hd) fun v ⟨hv,hd⟩=> ?_
 have Tb:=hl.1
 have e1: ∀(k:Int) {x:Int},aC k→aC x→G 0 nj (k,(x,dQ)):=fun k x hk hx=>yM hk hx aV aV aV aV aV aV
 have i11:aC 11:=aW
 have i13:aC 13:=aW
 have i10:aC 10:=aW
 have i15:aC 15:=aW
 have i2:aC 2:=aW
 dsimp only
 have h4:=G.cat hl (G.two (m:=2) (e1 11 i11 (dY (1+v.1))) (e1 13 i13 (dY (1+v.1))) (Nat.le_refl 2))
 have h4l:=h4.1
 refine aF (by rw[s6];omega) (af (HW N (by omega) hd hc (by omega)) fun n1 ⟨hn1,hd⟩=> ?_)
 have h5:=G.cat h4 hn1
 have h5l:=h5.1
 have anI:=hn1.1
 refine aF (by omega) (aF (by rw[s6];omega) (af (HW N (by omega) hd hc (by omega)) fun n2 ⟨hn2,hd⟩=> ?_))
 have h6:=G.cat h5 (G.two (m:=2) (yM i10 aV aV aV aV aV i2 aV) (e1 15 i15 aV) (Nat.le_refl 2))
 have h6l:=h6.1
 have anJ:=hn2.1
 exact aF (by simp only[List.length_append,List.length_cons,List.length_nil]at h4l h5l h6l anI anJ ⊢;omega) (af (acL N hN (by omega) hc.g (G.cat h6 hn2)) fun r hr=>ah ⟨hr,Dk.mono hd (by omega)⟩)
end VM
end
section
namespace VM
open Go VM.F Go.RowKit
theorem VK{l:List Int}(h:WF (.slice (.int .u64)) l):Dk 0 ((l,((0:Int),())):aK):=⟨fun x hx=>by
 obtain⟨i,hi,rfl⟩:=List.getElem_of_mem hx
 have h3:0≤l[i]∧l[i]≤18446744073709551615:=wf_u64.1 (h.2 i hi)
 exact⟨h3.1,Int.lt_of_le_of_lt h3.2 (by decide)⟩,Int.le_refl 0,Int.le_refl 0⟩
namespace Pure
end Pure
end VM
end
section
namespace VM
open Go VM.F Go.RowKit
theorem anK{α:Type}{l:List α}{d:α}{i:Nat}(h:i<l.length):l.getD i d∈l:=by
 rw[List.getD_eq_getElem?_getD,List.getElem?_eq_getElem h];exact List.getElem_mem h
namespace Pure
end Pure
end VM
end
section
namespace VM
open Go VM.F Go.RowKit
theorem H6{P:Int→Prop} [DecidablePred P]{f:Int→Int→Int}: ∀{K:List cW} {o:aj},fx P f K=some o→(o.map keyOf).Sublist K∧(∀x∈o,eP x=f x.1 x.2.1∧eP x≠0∧P (eP x))∧(∀k∈K,P (f k.1 k.2))∧ ∀a b,ib a b o=if(a,b)∈K then f a b else 0
 |[],o,h=>by
  have e:[]=o:=Option.some.inj h
  subst e
  exact⟨List.Sublist.refl _,fun x hx=>(nomatch hx),fun k hk=>(nomatch hk),fun a b=>by rw[if_neg (fun h=>nomatch h)];rfl⟩
 |k::t,o,h=>by
  rw[kN]at h
  by_cases hp:P (f k.1 k.2)
  ·rw[if_pos hp]at h
   cases ho:fx P f t with
   |none=>rw[ho]at h;exact nomatch h
   |some o'=>
    rw[ho]at h
    have e:(if f k.1 k.2=0 then o' else(k.1,(k.2,(f k.1 k.2,())))::o')=o:=Option.some.inj h
    obtain⟨s,g,gp,gf⟩:=H6 ho
    have gH: ∀k'∈k::t,P (f k'.1 k'.2):=fun k' hk=>by
     rcases List.mem_cons.1 hk with rfl|hk
     ·exact hp
     ·exact gp k' hk
    by_cases h0:f k.1 k.2=0
    ·rw[if_pos h0]at e
     subst e
     refine⟨s.cons _,g,gH,fun a b=> ?_⟩
     rw[gf a b]
     by_cases hk:(a,b)=k
     ·subst hk
      rw[if_pos (List.mem_cons_self ..)]
      dsimp only at h0
      rw[h0];split<;>rfl
     ·by_cases ht:(a,b)∈t
      ·rw[if_pos ht,if_pos (List.mem_cons_of_mem _ ht)]
      ·rw[if_neg ht,if_neg (fun h=>(List.mem_cons.1 h).elim hk ht)]
    ·rw[if_neg h0]at e
     subst e
     refine⟨s.cons_cons _,fun x hx=> ?_,gH,fun a b=> ?_⟩
     ·rcases List.mem_cons.1 hx with rfl|hx
      ·exact⟨rfl,h0,hp⟩
      ·exact g x hx
     ·rw[ic]
      dsimp only
      rw[gf a b]
      by_cases h1:k.1=a
      ·by_cases h2:k.2=b
       ·have hk:(a,b)=k:=by rw[←h1,←h2]
        rw[if_pos h1,if_pos h2,if_pos (by rw[hk];exact List.mem_cons_self ..),h1,h2]
       ·have hk:(a,b)≠k:=fun e=>h2 (by rw[←e])
        rw[if_pos h1,if_neg h2]
        by_cases ht:(a,b)∈t
        ·rw[if_pos ht,if_pos (List.mem_cons_of_mem _ ht)]
        ·rw[if_neg ht,if_neg (fun h=>(List.mem_cons.1 h).elim hk ht)]
      ·have hk:(a,b)≠k:=fun e=>h1 (by rw[←e])
       rw[if_neg h1]
       by_cases ht:(a,b)∈t
       ·rw[if_pos ht,if_pos (List.mem_cons_of_mem _ ht)]
       ·rw[if_neg ht,if_neg (fun h=>(List.mem_cons.1 h).elim hk ht)]
  ·rw[if_neg hp]at h;exact nomatch h
theorem acN{l:aj}(hs:uh (l.map keyOf)){j:Nat}(hj:j<l.length)(h0:0<j):pV (keyOf (l.getD (j-1) aQ)) (keyOf (l.getD j aQ)):=by
 have:=List.pairwise_iff_getElem.1 (List.pairwise_map.1 hs) (j-1) j (by omega) hj (by omega)
 rw[List.getD_eq_getElem?_getD,List.getD_eq_getElem?_getD,List.getElem?_eq_getElem hj,List.getElem?_eq_getElem (show j-1<l.length by omega)]
 exact this
theorem Lh{l:aj}(hs:uh (l.map keyOf))(h: ∀x∈l,bR x.1 x.2.1∧eP x≠0∧yG (eP x)):cR l=true:=by
 unfold cR
 rw[Bool.and_true]
 refine decide_eq_true fun j hj=> ?_
 obtain⟨a,b,c⟩:=h _ (anK (d:=aQ) hj)
 exact⟨a,b,c,fun h0=>acN hs hj h0⟩
theorem uA{a b:Int}:(a,b)∈nL↔bR a b:=by
 unfold nL bR
 rw[pW];dsimp only;omega
theorem Li(b:ag)(s e:aj):((fK b s e).2=2∧(fK b s e).1=(bF,(cc,(aY,(aY,(cv,(cF,())))))))∨ ∃s' r',fx Fq (fS b.2.2.2.1 s) nL=some s'∧fx aC (fS b.2.2.1 e) Ar=some r'∧fK b s e=((b.1,(b.2.1,(r',(s',b.2.2.2.2)))),0):=by
 unfold fK
 cases h1:fx Fq (fS b.2.2.2.1 s) nL with
 |none=>exact .inl ⟨rfl,rfl⟩
 |some s'=>
  cases h2:fx aC (fS b.2.2.1 e) Ar with
  |none=>exact .inl ⟨rfl,rfl⟩
  |some r'=>exact .inr ⟨s',r',rfl,rfl,rfl⟩
theorem Lj{l E o:aj}(hs:cR l=true)(h:fx Fq (fS l E) nL=some o):cR o=true∧(∀a b,bR a b→dX o a b=dX l a b+cE a b E∧Fq (dX o a b)):=by
 obtain⟨h1,h2,h3,h4⟩:=H6 h
 have hso:uh (o.map keyOf):=List.Pairwise.sublist h1 (sX 6 25 0)
 have ho:cR o=true:=Lh hso fun x hx=>by
  have hk:(x.1,x.2.1)∈nL:=h1.subset (List.mem_map_of_mem (f:=keyOf) hx)
  obtain⟨_,g1,g2⟩:=h2 x hx
  exact⟨uA.1 hk,g1,g2.2⟩
 refine⟨ho,fun a b hp=> ?_⟩
 have e:dX o a b=fS l E a b:=by
  unfold dX
  rw[ho,if_pos rfl,h4 a b,if_pos (uA.2 hp)]
 refine⟨?_,by rw[e];exact h3 _ (uA.2 hp)⟩
 rw[e]
 unfold fS dX
 rw[hs,if_pos rfl,sZ (gR hs).1]
end VM
end
section
namespace VM
open Go VM.F Go.RowKit
def aaA(b:ag)(x:bh):Prop:=(0≤(x.2.1:Int)∧(x.2.1:Int)<(b.2.2.2.2.1.length:Int))∧zj x.2.2.2.1∧bw (b.2.2.2.2.1.getD (x.2.1:Int).toNat 0)∧((x.2.2.1:Int)=1∨(x.2.2.1:Int)=2)
theorem vW{c:aa}{b:ag}{next:Int}{P:bh→Prop}(hP: ∀(k:Nat) (i:Int),¬((bG c b (k:Int)).natAbs:Int)≤pZ c→(dC c b (k:Int)).2.2≠0→P (i,((dC c b (k:Int)).1,((dC c b (k:Int)).2.1,((dC c b (k:Int)).2.2,()))))): ∀(m k:Nat) (out:aD),(∀x∈out,P x)→ ∀x∈ss c b next m k out,P x
 |0,_,out,h=>h
 |m+1,k,out,h=>by
  rw[p3]
  by_cases h1:((bG c b (k:Int)).natAbs:Int)≤pZ c
  ·rw[if_pos h1];exact vW hP m _ out h
  ·rw[if_neg h1]
   by_cases h2:(dC c b (k:Int)).2.2=0
   ·rw[if_pos h2];exact vW hP m _ out h
   ·rw[if_neg h2]
    refine vW hP m _ _ (fun x hx=> ?_)
    rcases List.mem_append.1 hx with hx|hx
    ·exact h x hx
    ·rw[List.mem_singleton.1 hx];exact hP _ _ h1 h2
theorem Sr{c:aa}{b:ag}{next:Int}(w:fi b){x:bh}(hx:x∈(eR c b next).1):bV c b=true∧aaA b x:=by
 unfold eR at hx
 by_cases hB:bV c b=true
 ·refine⟨hB,?_⟩
  rw[if_pos hB]at hx
  by_cases hn:1≤next∧next≤1099511627772
  ·rw[if_pos hn]at hx
   refine vW (P:=aaA b) (fun k i h1 h2=> ?_) 4 0 [] (fun x hx=>nomatch hx) x hx
   obtain⟨_,hi,hp⟩:=EH w hB h1 (EI hB)
   refine⟨by rw[JV]at hi;exact of_decide_eq_true hi,?_,hp,?_⟩
   ·have hq:qOf (bG c b (k:Int)) (b.2.2.2.2.1.getD ((bD c (k:Int)).getD 0 0).toNat 0)≠0:=h2
    show zj (qOf (bG c b (k:Int)) (b.2.2.2.2.1.getD ((bD c (k:Int)).getD 0 0).toNat 0))
    have:=(EJ (AU w hB k).2 hp).1
    unfold qOf zj at*
    split at hq<;>split<;>omega
   ·show(if 0<bG c b (k:Int)then(2:Int)else 1)=1∨(if 0<bG c b (k:Int)then(2:Int)else 1)=2
    split
    ·exact .inr rfl
    ·exact .inl rfl
  ·rw[if_neg hn]at hx;exact nomatch hx
 ·rw[if_neg hB]at hx;exact nomatch hx
theorem acO{α:Type}{l:List α}{d:α}{i:Nat}(h:i<l.length):l.getD i d∈l:=by
 rw[List.getD_eq_getElem?_getD,List.getElem?_eq_getElem h];exact List.getElem_mem h
theorem aaB{q:Int}(h:zj q):W .u64 q=q∧q≠0:=by
 unfold zj at h
 exact⟨bz (by omega) (by omega),by omega⟩
namespace Pure
end Pure
end VM
end
section
namespace VM
open Go VM.F Go.RowKit
theorem Lk{c:aa}{b:ag}{o:cq}(h:iS c b o=0):gk o∧(dx b.2.1 o.2.1).2=true∧oI o<(c.1.length:Int):=by
 unfold iS at h
 by_cases hB:bV c b=true
 ·rw[if_pos hB]at h
  by_cases ho:gk o
  ·rw[if_pos ho]at h
   by_cases hf:(dx b.2.1 o.2.1).2=true
   ·rw[if_pos hf]at h
    by_cases hs:U2 b o.2.1=1
    ·rw[if_pos hs]at h
     by_cases hi:(c.1.length:Int)≤oI o
     ·rw[if_pos hi]at h;exact absurd h (by decide)
     ·exact⟨ho,hf,Int.not_le.1 hi⟩
    ·rw[if_neg hs]at h;exact absurd h (by decide)
   ·rw[if_neg hf]at h;exact absurd h (by decide)
  ·rw[if_neg ho]at h;exact absurd h (by decide)
 ·rw[if_neg hB]at h;exact absurd h (by decide)
theorem H7{i a n s q p:Int}(h:jb i a n s q p):fj 0 a n q p∧fj a 0 n q p:=by
 unfold jb at h;unfold fj bw;omega
theorem ye{c:aa}{b:ag}{a n q p:Int}(hf:(dx b.2.1 a).2=true)(hn:n<(c.1.length:Int)):iy c b ((0:Int),(a,(n,(q,(p,())))))=true∧iy c b (a,((0:Int),(n,(q,(p,())))))=true:=by
 unfold iy
 dsimp only
 rw[hf,decide_eq_true (show gl 0 0 from rfl),decide_eq_true (show Fw n c.1.length from hn),Bool.or_true]
 exact⟨rfl,rfl⟩
theorem Ll{c:aa}{b:ag}(hB:bV c b=true){t:fZ}(h1:c6 t)(h2:iy c b t=true):j1 c b [t]=fK b (eG [t]) (ga b [t]):=by
 unfold j1
 rw[if_pos hB,if_pos (by rw[List.length_singleton];omega),if_pos (by rw[List.all_cons,List.all_nil,decide_eq_true h1];rfl),if_pos (by rw[List.all_cons,List.all_nil,h2];rfl)]
theorem E5(x y n q p a:Int):cE a n (eG [((x,(y,(n,(q,(p,()))))):fZ)])=(if x=a then q else 0)+(if y=a then 0-q else 0):=by
 rw[lP,fJ,fJ]
 show(if x=a∧n=n then q else 0)+((if y=a∧n=n then 0-q else 0)+0)=_
 rw[Int.add_zero]
 simp only[and_true]
def gOf(h:bh)(q:Int):Int:=if h.2.2.1=2 then 0-q else q
theorem Lm{c:aa}{b:ag}(hB:bV c b=true){h:bh}(hh:iT h){a q p:Int}(hq:zj q)(hp:bw p)(hl: ¬h.2.2.2.1<q):
  (iS c b (vU h a q p)≠0∧dK c b h a q p=((bF,(cc,(aY,(aY,(cv,(cF,())))))),aJ,iS c b (vU h a q p)))∨(iS c b (vU h a q p)=0∧(dK c b h a q p=((bF,(cc,(aY,(aY,(cv,(cF,())))))),aJ,2)∨ ∃b':ag,dK c b h a q p=(b',(h.1,(h.2.1,(h.2.2.1,((h.2.2.2.1-q:Int),())))),0)∧b'.2.2.2.2.2.1=b.2.2.2.2.2.1∧
   (dX b'.2.2.2.1 0 h.2.1=dX b.2.2.2.1 0 h.2.1+gOf h q∧Fq (dX b'.2.2.2.1 0 h.2.1))∧(dX b'.2.2.2.1 a h.2.1=dX b.2.2.2.1 a h.2.1-gOf h q∧Fq (dX b'.2.2.2.1 a h.2.1)))):=by
 unfold dK
 rw[if_pos hB,if_pos hh,if_pos hq,if_pos hp,if_neg hl]
 unfold Dw
 by_cases h0:iS c b (vU h a q p)=0
 ·rw[if_pos h0]
  refine .inr ⟨h0,?_⟩
  obtain⟨ho,hf,hi⟩:=Lk h0
  have ho6:jb h.1 a h.2.1 (3-h.2.2.1) q p:=ho
  have we:(dx b.2.1 a).2=true:=hf
  have kk:(h.2.1:Int)<(c.1.length:Int):=hi
  have BF: ∀{i a n s q p:Int},jb i a n s q p→bR 0 n∧bR a n∧ ¬a=0∧ ¬(0:Int)=a:=fun h=>by unfold jb at h;unfold bR;omega
  obtain⟨p0,pa,ha,ha'⟩:=BF ho6
  have et:j1 c b [nT h a q p]=fK b (eG [nT h a q p]) (ga b [nT h a q p]):=by
   refine Ll hB ?_ ?_
   ·unfold nT c6
    split
    ·exact(H7 ho6).1
    ·exact(H7 ho6).2
   ·unfold nT
    split
    ·exact(ye we kk).1
    ·exact(ye we kk).2
  have e0:cE 0 h.2.1 (eG [nT h a q p])=gOf h q∧cE a h.2.1 (eG [nT h a q p])=0-gOf h q:=by
   have hs: ∀s:Int,s=1∨s=2→(s=1→ ¬s=2)∧(¬s=1→s=2):=fun s h=>by omega
   unfold nT gOf
   have hs:=hs _ hh.2.2.1
   by_cases h1:(h.2.2.1:Int)=1
   ·rw[if_pos h1,if_neg (hs.1 h1),E5,E5,if_pos rfl,if_neg ha,if_neg ha',if_pos rfl];omega
   ·rw[if_neg h1,if_pos (hs.2 h1),E5,E5,if_neg ha,if_pos rfl,if_pos rfl,if_neg ha'];omega
  unfold Dv
  rw[et]
  rcases Li b (eG [nT h a q p]) (ga b [nT h a q p])with⟨e1,_⟩|⟨s',r',c1,c2,e⟩
  ·rw[if_neg (by rw[e1];decide),e1];exact .inl rfl
  ·rw[e]
   dsimp only
   rw[if_pos rfl]
   obtain⟨_,g⟩:=Lj (jZ hB).2 c1
   refine .inr ⟨_,rfl,rfl,?_,?_⟩
   ·have:=g 0 h.2.1 p0
    rw[e0.1]at this;exact this
   ·have:=g a h.2.1 pa
    rw[e0.2]at this
    exact⟨this.1.trans (by omega),this.2⟩
 ·rw[if_neg h0]
  exact .inl ⟨h0,rfl⟩
theorem O9{c:aa}{b:ag}{next:Int}(w:fi b){x:bh}(hx:x∈(eR c b next).1):iT x:=by
 obtain⟨hB,hi,hq,hp,hs⟩:=Sr w hx
 have BF:=cP hB
 have h6:=(eQ (c7 hB)).1
 have aU:1≤(x.1:Int)∧(x.1:Int)≤1099511627776:=by
  unfold eR at hx
  rw[if_pos hB]at hx
  by_cases hn:1≤next∧next≤1099511627772
  ·rw[if_pos hn]at hx
   have key: ∀(m k:Nat) (out:aD),out.length+m≤4→(∀x∈out,1≤(x.1:Int)∧(x.1:Int)≤1099511627776)→ ∀x∈ss c b next m k out,1≤(x.1:Int)∧(x.1:Int)≤1099511627776:=by
    intro m
    induction m with
    |zero=>intro k out _ h;exact h
    |succ m ih=>
     intro k out hl h
     rw[p3]
     by_cases h1:((bG c b (k:Int)).natAbs:Int)≤pZ c
     ·rw[if_pos h1];exact ih _ out (by omega) h
     ·rw[if_neg h1]
      by_cases h2:(dC c b (k:Int)).2.2=0
      ·rw[if_pos h2];exact ih _ out (by omega) h
      ·rw[if_neg h2]
       refine ih _ _ (by rw[List.length_append,List.length_singleton];omega) fun x hx=> ?_
       rcases List.mem_append.1 hx with hx|hx
       ·exact h x hx
       ·rw[List.mem_singleton.1 hx]
        show 1≤next+(out.length:Int)∧next+(out.length:Int)≤1099511627776
        omega
   exact key 4 0 [] (by decide) (fun x hx=>nomatch hx) x hx
  ·rw[if_neg hn]at hx;exact nomatch hx
 exact⟨aU,⟨hi.1,by have:=hi.2;rw[BF.1]at this;exact Int.lt_of_lt_of_le this (by omega)⟩,hs,hq⟩
theorem anM{v x:Int}(h:zj v)(hx:0≤x):zj (W .i64 (1+W .i64 (rem x (W .u64 v))))∧ ¬v<W .i64 (1+W .i64 (rem x (W .u64 v))):=by
 rw[(aaB h).1]
 unfold zj at*
 have:=rem_in (x:=x) (y:=v) hx (by omega)
 rw[al (x:=rem x v) (by omega) (by omega),al (by omega) (by omega)]
 omega
theorem anN{v x:Int}(h:bw v)(hx:0≤x∧x<3):bw (mx 1 (W .i64 (v-x))):=by
 unfold bw at*
 rw[al (by omega) (by omega),Z6]
 split<;>omega
theorem aif{x:Int}(h:Fq x):W .i64 x=x:=by
 obtain⟨h,_⟩:=h
 unfold aC at h
 exact al h.1 (by omega)
theorem acP{s:Int}(h:s=1∨s=2):W .i64 (3-s)=3-s:=al (by omega) (by omega)
theorem q_w{v q:Int}(h:zj v)(hq:zj q):W .i64 (v-q)=v-q∧W .i64 (0-q)=0-q:=by
 unfold zj at*;exact⟨al (by omega) (by omega),al (by omega) (by omega)⟩
theorem Ss(N:Nat)(hN:5000000≤N){K:ky.ej}{d:aK}{c:aa}{s:aM}{l:aD}{i:Nat}(hi:i≤100000){h:bh}{a q p:Int}(w:sY s.2.2.1)(hB:bV c s.2.2.1=true)(hh:iT h)(hq:zj q)(hp:bw p)(hl: ¬h.2.2.2.1<q)(hK:Ok (fun r=>r=true) (K d c s l ((i+1:Nat):Int))):
  Ok (fun r=>r=true) (cond (!ay (dK c s.2.2.1 h a q p).2.2 (iS c s.2.2.1 (vU h a q p))) (cond (!ay (dK c s.2.2.1 h a q p).2.2 2) (some false) (ky.rA N K d c s l (i:Int) h a q (dK c s.2.2.1 h a q p).1 (dK c s.2.2.1 h a q p).2.1 (dK c s.2.2.1 h a q p).2.2)) (ky.rA N K d c s l (i:Int) h a q (dK c s.2.2.1 h a q p).1 (dK c s.2.2.1 h a q p).2.1 (dK c s.2.2.1 h a q p).2.2)):=by
 have ew:W .i64 ((i:Int)+1)=((i+1:Nat):Int):=by rw[al (by omega) (by omega)];omega
 have ei: ∀e:Int,e≠0→Ok (fun r=>r=true) (ky.rA N K d c s l (i:Int) h a q (bF,(cc,(aY,(aY,(cv,(cF,())))))) aJ e):=fun e he=>by
  unfold ky.rA ky.mu
  rw[ew]
  exact bE (fun _=>bH (fun h=>by rw[KD]at h;exact nomatch h) fun _=>bE (fun h=>absurd rfl h) fun _=>hK) fun h=>absurd h he
 rcases Lm hB hh hq hp hl (a:=a)with⟨h0,e⟩|⟨h0,e|⟨b',e,ho,⟨g1,g2⟩,g3,g4⟩⟩
 ·rw[e]
  exact bE (fun h=>absurd rfl h) fun _=>ei _ h0
 ·rw[e]
  exact bE (fun _=>bE (fun h=>absurd rfl h) fun _=>ei _ (by decide)) fun _=>ei _ (by decide)
 ·have sh:=A3 (c:=c) w.w h a q p
  rw[e]at sh ⊢
  rw[h0]
  refine bE (fun h=>absurd rfl h) fun _=> ?_
  have acb: ∀g:Int,g=gOf h q→Ok (fun r=>r=true) (ky.Gy N K d c s l (i:Int) h a q b' (h.1,(h.2.1,(h.2.2.1,((h.2.2.2.1-q:Int),())))) g):=fun g eg=>by
   subst eg
   unfold ky.Gy ky.z6
   rw[ew]
   refine bE (fun h'=>absurd (q_w hh.2.2.2 hq).1.symm h') fun _=>bE (fun h=>absurd rfl h) fun _=>cf (o3 N sh.s (by omega) _ _) (cf (o3 N w.w.s (by omega) _ _) (bE (fun h'=>absurd ?_ h') fun _=>cf (o3 N sh.s (by omega) _ _) (cf (o3 N w.w.s (by omega) _ _) (bE (fun h'=>absurd ?_ h') fun _=> ?_))))
   ·rw[←g1,aif g2]
   ·rw[←g3,aif g4]
   ·rw[ho]
    exact cf (KE N w.w.o (by omega)) (bH (fun h=>nomatch h) fun _=>hK)
  unfold ky.rA ky.mu
  exact bE (fun h=>absurd rfl h) fun _=>ok_eq (fun h2=>acb _ (by unfold gOf;rw[if_pos h2,(q_w hh.2.2.2 hq).2])) fun h2=>acb _ (by unfold gOf;rw[if_neg h2])
namespace Pure
theorem Ln(l:List Int)(h:WFs [.slice (.int .u64)] l): ∃N,ky N l=some true:=by
 have key:Ok (fun r=>r=true) (ky 6000000 l):=by
  unfold ky ky.b F13
  refine cf (OJ 6000000 (by omega)) (bH (fun h=>nomatch h) fun _=>cf rfl (af (ON 6000000 (by omega) (VK h.1)) fun c ⟨⟨hc,BS⟩,hd⟩=>af (Lg 6000000 (by omega) hd ⟨hc,BS⟩ (by omega)) fun s ⟨hs,hd⟩=> ?_))
  have w:=G.wf (by omega) hs.2.2.1
  have hm:aC (pZ c.1):=hc.2.2.2.2.2.2.1
  have Tb:=KZ c.1 s.1.2.2.1 s.1.2.1
  refine cf (KV 6000000 (by omega) c.1 hm w.w _) ?_
  refine bq (len:=(eR c.1 s.1.2.2.1 s.1.2.1).1.length) (F:=fun n i (z:aK)=>ky.l8 6000000 n z c.1 s.1 (eR c.1 s.1.2.2.1 s.1.2.1).1 i) (fun i z=>Dk (200000+3*i) z) (Dk.mono hd (by omega)) (by omega) (fun n i z hi hI hr=> ?_) (fun n z hI=> ?_)
  all_goals unfold ky.l8 ky.wk
  ·have gB:=acO (d:=aJ) hi
   have hx:=Sr (c:=c.1) (next:=s.1.2.1) w.w gB
   have hh:=O9 (c:=c.1) (next:=s.1.2.1) w.w gB
   have hq:=aaB hx.2.2.1
   rw[Int.toNat_natCast]
   generalize (eR c.1 s.1.2.2.1 s.1.2.1).1.getD i aJ=x at*
   refine av (fun _=>ax ⟨by omega,by omega⟩ (af (gz 6000000 (by decide) hI (by unfold ow;omega)) fun r7 ⟨_,hd⟩=>af (EX 6000000 (by unfold ow;omega) hd) fun r9 ⟨hr9,hd⟩=>ok_eq (fun e=>absurd (hq.1.symm.trans e) hq.2) fun _=>ax hx.2.1 (af (gz 6000000 (by decide) hd (by unfold ow;omega)) fun mE ⟨anP,hd⟩=> ?_))) fun _=>by omega
   obtain⟨hq1,hq2⟩:=anM hx.2.2.1 hr9.1
   have hp1:=anN hx.2.2.2.1 anP
   refine cf (ET 6000000 (by omega) c.1 w _ _ _ _) ?_
   rw[acP hh.2.2.1]
   exact cf (HL 6000000 (by omega) c.1 w.w _) (Ss 6000000 (by omega) (by omega) w hx.1 hh hq1 hp1 hq2 (hr mE.2 (Dk.mono hd (by omega))))
  ·exact av (fun _=>by omega) fun _=>ah rfl
 obtain⟨r,e,hr⟩:=key
 exact⟨6000000,by rw[e,hr]⟩
end Pure
end VM
end
