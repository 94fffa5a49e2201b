/- A part of the proof of AwardDrawn of layer 25: what the functions compute, in plain words. -/
import Derived.Test.YtocmlaipoebfeaaGreatPlain5
set_option linter.all false
section
namespace VM
open Go VM.F
theorem vA(N:Nat)(hN:4000000≤N){c:ae}{l:ax}{m:Nat}(hm:m≤50000)(hc:G m an c)(hl:L2 m l)(f:Bool):Ok (fun r=>Bg 60000 r.1) (lz N c l f):=by
 have h1:=hl.1
 unfold lz lz.b
 refine cg (uk N (by omega) c (by omega)) (bx (fun _=>ag (CF (by omega))) fun hk=>bf (len:=l.length) (F:=fun n i t=>lz.l5 N n l f c (false,(([]:List Int),())) t i) (fun i t=>Bg (8+i) t) (CF (by omega)) (by omega) (fun n i t hi ht hr=> ?_) (fun n t ht=> ?_))
 all_goals unfold lz.l5 lz.dn
 ·rw[aq (x:=(i:Int)+1) (by omega) (by omega),aa i,Int.toNat_natCast]
  unfold qO at hk
  have hp:=of_decide_eq_true (Bool.and_eq_true_iff.1 hk).1 i hi
  unfold jz jO at hp
  have in1: ∀{x y:Option (av×Int)},Ok (fun r=>Bg 60000 r.1) x→Ok (fun r=>Bg 60000 r.1) (cond (aN (l.getD i bP).1 c.1.length) x y):=fun h=>aw ⟨hp.1,hp.2.1⟩ h
  have hw: ∀q:Int,aD q→Ok (fun r=>Bg 60000 r.1) ((fY N (l.getD i bP).2.1).bind fun r3=>(Ny N r3).bind fun r4=>(fY N q).bind fun r5=>(fL N r4 r5).bind fun r6=>(tU N t r6).bind fun r7=>lz.l5 N n l f c (false,(([]:List Int),())) r7 ((i+1:Nat):Int)):=fun q hq=>
   af (aY N hN (G.at hl i).2.1) fun x hx=>af (qW N hN (by omega) hx) fun x hx=>af (aY N hN hq) fun y hy=>af (jn N hN (by omega) (by omega) hx hy) fun z hz=>af (gA N hN (by omega) ht (Bg.mono hz (by omega))) fun u hu=>hr u (Bg.mono hu (by omega))
  exact au (fun _=>aw ⟨by omega,by omega⟩ (in1 (og (fun _=>aw ⟨by omega,by omega⟩ (in1 (aw ⟨by omega,by omega⟩ (hw _ (G.at hc.1 _).2.2.2.1)))) fun _=>aw ⟨by omega,by omega⟩ (hw _ (G.at hc.1 _).2.2.1)))) fun _=>by omega
 ·exact au (fun _=>by omega) fun _=>ag (Bg.mono ht (by omega))
theorem rE(N:Nat)(hN:200000≤N){b:ah}{m:Nat}(hm:m≤50000)(hb:G m aC b)(id:Int):Ok (fun _=>True) (Ao N b id):=by
 unfold Ao
 exact af (mj N hN hm hb.1 _) fun _ _=>dk
theorem rF(N:Nat)(hN:200000≤N){b:ah}{m:Nat}(hm:m≤50000)(hb:G m aC b)(id:Int):Ok aD (Ir N b id):=by
 unfold Ir
 exact af (mW N hN hm hb.2.2.1 _ _) fun r hr=>ag hr
theorem RW(N:Nat)(hN:5000000≤N){c:ae}{b:ah}{m:Nat}(hm:m≤40000)(hc:G m an c)(hb:G m aC b)(f:Int){to:Int}(hto:aD to)(a:Int):Ok (fun r=>G m aC r.1) (RX N c b f to a):=by
 have Ht:Ok (fun _=>True) (RY N c b f to a):=by
  unfold RY YF
  have mb:=fun id=>rE N (by omega) (by omega) hb id
  exact cg (dH N hN (by omega) hb) (bx (fun _=>dk) fun _=>af (rC N (by omega) (by omega) hb.2.1 _) fun _ _=>bx (fun _=>dk) fun _=>af (mb _) fun _ _=>ok_eq (fun _=>dk) fun _=>af (mb _) fun _ _=>ok_eq (fun _=>dk) fun _=>bI (fun _=>dk) fun _=>bI (fun _=>dk) fun _=>af (mb _) fun _ _=>bI (fun _=>dk) fun _=>af (E5 N (by omega) (by omega) hb.2.2.2.1 _) fun l hl=>af (Q:=fun r=>Bg 60000 r.1) (af (vA N (by omega) (by omega) hc hl _) fun r hr=>ag hr) fun u hu=>af (rF N (by omega) (by omega) hb _) fun g hg=>af (aY N (by omega) hg) fun x hx=>af (oh N (by omega) (by omega) (by omega) hx hu) fun _ _=>au (fun _=>dk) fun _=>dk)
 unfold RX
 exact af Ht fun _ _=>bI (fun _=>ag G.eZ) fun _=>af (Im N (by omega) (by omega) hb.1 hb.2.1 hto) fun r hr=>bI (fun _=>ag G.eZ) fun _=>ag ⟨hb.1,hr,hb.2.2⟩
theorem LC(N:Nat)(hN:4000000≤N){x:av}{q:Int}(hx:Bg 60000 x)(hq:aD q):Ok (fun r=>0≤r∧r≤3) (m4 N x q):=by
 unfold m4 m4.b
 refine af (xJ N hx) fun _ _=>c8 (fun _=>ag (by decide)) fun _=>au (fun _=>ag (by decide)) fun _=>gz (len:=3) (F:=fun n i (_:Unit)=>m4.l4 N n q x i) (fun _ _=>True) (fun n i _ hi _ hr=> ?_) (fun n _ _=> ?_) 3 N 1 () (by omega) (by omega) (by omega) trivial
 all_goals unfold m4.l4 m4.ca
 ·rw[aq (x:=(i:Int)+1) (by omega) (by omega),aa i]
  exact au (fun _=>af (aY N hN (fj (by omega) (by omega))) fun a ha=>af (aY N hN hq) fun b hb=>af (jn N hN (by omega) (by omega) ha hb) fun y hy=>af (oh N hN (by omega) (by omega) hy hx) fun _ _=>au (fun _=>hr () trivial) fun _=>ag (by omega)) fun _=>by omega
 ·exact au (fun _=>by omega) fun _=>ag (by omega)
theorem RZ(N:Nat)(hN:5000000≤N)(c:ae){b:ah}{m:Nat}(hm:m≤50000)(hb:G m aC b):Ok (fun r=>G m (.slice (.int .i64)) r.1) (m5 N c b):=by
 have hl:=hb.1.1
 unfold m5 m5.b
 refine cg (dH N hN hm hb) (bx (fun _=>ag G.nil) fun _=>bf (len:=b.1.length) (F:=fun n i s=>m5.l5 N n b s i) (fun i s=>G i (.slice (.int .i64)) s) G.nil (by omega) (fun n i s hi hI hr=> ?_) (fun n s hI=> ?_))
 all_goals unfold m5.l5 m5.dn
 ·have hs:=hI.1
  rw[aq (x:=(i:Int)+1) (by omega) (by omega),aa i]
  have h1:=hr s (G.mono (by omega) hI)
  have hx:G 0 (.int .i64) (b.1.getD (i:Int).toNat bP).1:=(G.at hb.1 _).1
  exact au (fun _=>aw ⟨by omega,by omega⟩ (ok_eq (fun _=>aw ⟨by omega,by omega⟩ (af (mW N (by omega) hm hb.2.2.1 _ _) fun _ _=>au (fun _=>aw ⟨by omega,by omega⟩ (aG (by rw[List.length_singleton];omega) (hr _ (G.cat hI (G.one hx (Nat.le_refl 1)))))) fun _=>h1)) fun _=>h1)) fun _=>by omega
 ·exact au (fun _=>by omega) fun _=>ag (G.mono hl hI)
abbrev LL(m:Nat)(l:aA):Prop:=G m (.slice dM) l
theorem zm(N:Nat)(hN:200000≤N){l:aA}{m:Nat}(hm:m≤50000)(h:LL m l)(id:Int):Ok (fun r=>G m dM r.1) (lU N l id):=by
 have hl:=h.1
 unfold lU lU.b
 refine hO (len:=l.length) (F:=fun n i=>lU.l2 N n l id ((0:Int),(a6,aE)) i) (by omega) (fun n i hi hr=> ?_) (fun n=> ?_)
 all_goals unfold lU.l2 lU.dI
 ·rw[aq (x:=(i:Int)+1) (by omega) (by omega),aa i]
  exact au (fun _=>aw ⟨by omega,by omega⟩ (ok_eq (fun _=>aw ⟨by omega,by omega⟩ (ag (G.at h _))) fun _=>hr)) fun _=>by omega
 ·exact au (fun _=>by omega) fun _=>ag (G.zero m dM)
theorem LD(N:Nat)(hN:4000000≤N){a b:ax}{m:Nat}(h6:6≤m)(hm:m≤40000)(ha:L2 m a)(hb:L2 m b):Ok (fun r=>L2 m r.1) (c5 N a b):=by
 have hal:=ha.1
 have tf:=hb.1
 unfold c5 c5.b
 refine bf (len:=6) (F:=fun n i s=>c5.l3 N n a b s i) (fun i s=>L2 i s) G.nil (by omega) (fun n i s hi hI hr=> ?_) (fun n s hI=> ?_)
 all_goals unfold c5.l3 c5.ig
 ·have hs:=hI.1
  refine au (fun _=> ?_) fun _=>by omega
  refine bf (len:=a.length) (F:=fun n' j t=>c5.l7 N (c5.l3 N n) n' a b s (i:Int) t j) (fun j t=>Bg (3+j) t) (CF (by omega)) (by omega) (fun n' j t hj ht dr=> ?_) (fun n' t ht=> ?_)
  all_goals unfold c5.l7 c5.lD
  ·rw[aq (x:=(j:Int)+1) (by omega) (by omega),aa j]
   exact au (fun _=>aw ⟨by omega,by omega⟩ (ok_eq (fun _=>aw ⟨by omega,by omega⟩ (af (aY N hN (G.at ha _).2.1) fun r hr=>af (gA N hN (by omega) ht (Bg.mono hr (by omega))) fun u hu=>dr u (Bg.mono hu (by omega)))) fun _=>dr t (Bg.mono ht (by omega)))) fun _=>by omega
  ·refine au (fun _=>by omega) fun _=> ?_
   refine bf (len:=b.length) (F:=fun Bv j t=>c5.nn N (c5.l3 N n) Bv a b s (i:Int) t j) (fun j t=>Bg (3+a.length+j) t) ht (by omega) (fun Bv j t hj ht dr=> ?_) (fun Bv t ht=> ?_)
   all_goals unfold c5.nn c5.lM
   ·rw[aq (x:=(j:Int)+1) (by omega) (by omega),aa j]
    exact au (fun _=>aw ⟨by omega,by omega⟩ (ok_eq (fun _=>aw ⟨by omega,by omega⟩ (af (aY N hN (G.at hb _).2.1) fun r hr=>af (gA N hN (by omega) ht (Bg.mono hr (by omega))) fun u hu=>dr u (Bg.mono hu (by omega)))) fun _=>dr t (Bg.mono ht (by omega)))) fun _=>by omega
   ·rw[aq (x:=(i:Int)+1) (by omega) (by omega),aa i]
    exact au (fun _=>by omega) fun _=>af (wE N ht) fun v hv=>bx (fun _=>ag G.nil) fun _=>bI (fun _=>aG (by rw[List.length_singleton];omega) (hr _ (G.cat hI (G.one (m:=1) (G2 (fj (by omega) (by omega)) hv) (Nat.le_refl 1))))) fun _=>hr s (G.mono (by omega) hI)
 ·exact au (fun _=>by omega) fun _=>ag (G.mono h6 hI)
theorem Fi(N:Nat)(hN:5000000≤N){c:ae}{b:ah}{cV:aA}{l:ay}{x:bs}{m:Nat}(h6:6≤m)(hm:m≤40000)(hc:G m an c)(hb:G m aC b)(hL:LL m cV)(hl:G m (.slice cL) l)(hx:G 0 cL x):Ok (fun _=>True) (gD N c b cV l x):=by
 have tH:=hl.1
 have hLl:=hL.1
 have hal:=hb.2.1.1
 have Da:=hb.2.2.2.2.2.1.1
 have hw:kG cV:=fun y hy=>Nat.le_trans (hL.2 y hy).2.1.1 (by omega)
 unfold gD gD.b
 have hj:Ok (fun _=>True) (gD.j3 N cV l c b x):=by
  unfold gD.j3 gD.j3b
  refine af (rE N (by omega) (by omega) hb _) fun _ _=>ok_eq (fun _=>dk) fun _=>bI (fun _=>dk) fun _=>af (zm N (by omega) (by omega) hL _) fun z hz=>cg (rq N (by omega) (by omega) _) (bx (fun _=>dk) fun _=>bI (fun _=>dk) fun _=>ok_eq (fun _=>dk) fun _=>hO (len:=l.length) (F:=fun n i=>gD.nV N n l c b x z.1 (dQ b.2.1 x.2.2.1) i) (by omega) (fun n i hi hr=> ?_) (fun n=> ?_))
  all_goals unfold gD.nV gD.lN
  ·rw[aq (x:=(i:Int)+1) (by omega) (by omega),aa i]
   exact au (fun _=>aw ⟨by omega,by omega⟩ (ok_eq (fun _=>aw ⟨by omega,by omega⟩ (ok_eq (fun _=>dk) fun _=>hr)) fun _=>hr)) fun _=>by omega
  ·refine au (fun _=>by omega) fun _=>ok_eq (fun _=>dk) fun _=>af (aY N (by omega) hx.2.2.2.1) fun p hp=>af (aY N (by omega) (show aD 4 from aV)) fun q hq=>af (aY N (by omega) hz.2.2.1) fun r hr=>af (jn N (by omega) (by omega) (by omega) hq hr) fun u hu=>af (oh N (by omega) (by omega) (by omega) hp hu) fun _ _=>au (fun _=>dk) fun _=>af (E5 N (by omega) (by omega) hb.2.2.2.1 _) fun a ha=>af (LD N (by omega) h6 (by omega) ha hz.2.1) fun j hj=>bx (fun _=>dk) fun _=> ?_
   unfold YG
   exact af (Q:=fun r=>L3 6 r) (cg (jK N (by omega) (by omega)) (bx (fun _=>ag G.nil) fun _=>af (zk N (by omega) (by omega) _) fun r hr=>ag hr)) fun o ho=>af (E4 N (by omega) (by omega) hc hj (G.mono h6 ho)) fun w hw=>af (rF N (by omega) (by omega) hb _) fun g hg=>af (aY N (by omega) hg) fun v hv=>af (aY N (by omega) hx.2.2.2.1) fun p hp=>af (uM N (by omega) (by omega) hv hp) fun d hd=>af (oh N (by omega) (by omega) (by omega) hd hw) fun _ _=>au (fun _=>dk) fun _=>dk
 refine cg (dH N hN (by omega) hb) (bx (fun _=>dk) fun _=>cg (uA N (by omega) c (by omega) hw) (bx (fun _=>dk) fun _=>cg (mO N (by omega) (by omega)) (bx (fun _=>dk) fun _=>cg (Jv N _) (bx (fun _=>dk) fun _=>au (fun _=> ?_) fun _=>hj))))
 dsimp only
 exact aw (by rw[aq (by omega) (by omega)];omega) (c8 (fun _=>dk) fun _=>hj)
theorem LF(N:Nat)(hN:5000000≤N){c:ae}{b:ah}{cV:aA}{l:ay}{x:bs}{m:Nat}(h6:6≤m)(hm:m≤40000)(hc:G m an c)(hb:G m aC b)(hL:LL m cV)(hl:G m (.slice cL) l)(hx:G 0 cL x):Ok (fun r=>G (m+1) (.slice cL) r.1) (R1 N c b cV l x):=by
 have tH:=hl.1
 unfold R1
 refine af (Fi N hN h6 hm hc hb hL hl hx) fun _ _=>bI (fun _=>ag G.nil) fun _=>aG (by rw[List.length_nil];omega) ?_
 dsimp only
 rw[List.nil_append]
 exact aG (by rw[List.length_singleton];omega) (ag (G.cat hl (G.one hx (Nat.le_refl 1))))
end VM
end
section
namespace VM
open Go VM.F
theorem WC{l:List Int}(h:Pos l)(hs:l.sum<9223372036854775808):Cx l:=fun x hx=>by
 have h3:=h x hx
 obtain⟨i,hi,rfl⟩:=List.mem_iff_getElem.1 hx
 have h4:=s7 h i
 rw[List.getD_eq_getElem?_getD,List.getElem?_eq_getElem hi]at h4
 simp only[Option.getD_some]at h4
 omega
theorem OJ(k:Nat):(List.replicate k (1:Int)).sum=k:=by
 induction k with
 |zero=>rfl
 |succ k ih=>rw[List.replicate_succ,List.sum_cons,ih];omega
theorem OK(k:Nat):Pos (List.replicate k 1):=fun x hx=>by rw[List.eq_of_mem_replicate hx];omega
theorem OL{t:Int}{k:Nat}(h0:0≤t)(h1:t<9223372036854775808)(hk:1≤k)(XP:k≤3):(Bo t k).1.length=k∧Cx (Bo t k).1:=by
 have hS:0<(List.replicate k (1:Int)).sum:=by rw[OJ];omega
 have ee:Bo t k=(ba t (List.replicate k 1),0):=by
  unfold Bo
  rw[if_neg (by omega),Int.toNat_natCast]
  unfold mS
  have hm:may (List.replicate k 1)=true:=kb.2 ⟨by rw[List.length_replicate];omega,OK k⟩
  rw[if_neg (by rw[hm];simp;omega),OJ,if_neg (by omega),if_neg (by omega)]
 rw[ee]
 exact⟨by dsimp only;rw[jT,List.length_replicate],WC (pG h0 hS (OK k)) (by rw[pF h0 hS];omega)⟩
def LQ(y:KV):Prop:=aD y.1∧aD y.2.1∧w5 y.2.1
theorem WD{l:ax}(h: ∀y∈l,LQ y)(i:Nat):LQ (l.getD i bP):=by
 by_cases hk:i<l.length
 ·rw[List.getD_eq_getElem?_getD,List.getElem?_eq_getElem hk];exact h _ (List.getElem_mem hk)
 ·rw[List.getD_eq_getElem?_getD,List.getElem?_eq_none (by omega)];exact⟨aS,aS,by unfold w5;decide⟩
theorem LG{c:ae}{b:ah}{m:Nat}(hb:G m aC b)(hB:et c b=true)(a:Int): ∀y∈posOf b.2.2.2.1 a,LQ y∧(0≤(y.1:Int)∧(y.1:Int)<(c.1.length:Int)):=fun y hy=>by
 have hk:dt b.2.2.2.1=true:=by
  by_cases h:dt b.2.2.2.1=true
  ·exact h
  ·unfold posOf at hy;rw[if_neg h]at hy;nomatch hy
 unfold posOf at hy
 rw[if_pos hk]at hy
 obtain⟨x,hx,_,e⟩:=pD hy
 have hg:=hb.2.2.2.1.2 x hx
 have hq:=((kF hk).2 x hx).2
 have hp:=CD hB x hx
 rw[e]
 exact⟨⟨hg.2.1,hg.2.2.1,hq⟩,hp⟩
theorem JX(N:Nat)(hN:5000000≤N){c:ae}{b:ah}{m:Nat}(h2:200≤m)(hm:m≤40000)(hc:G m an c)(hb:G m aC b){next:Int}(hn:aD next):Ok (fun r=>LL m r.1) (cP N c b next):=by
 unfold cP cP.b
 refine cg (dH N hN (by omega) hb) (bx (fun _=>ag G.nil) fun hB=>au (fun _=>ag G.nil) fun _=>au (fun _=>ag G.nil) fun _=>cg (Oa N (G.wf (by omega) hb).w.s (by omega) 0) (ok_eq (fun _=>ag G.nil) fun _=> ?_))
 have iX:=LG hb hB 0
 have hal:=(adQ hb.2.2.2.1 0).1
 generalize posOf b.2.2.2.1 0=all at*
 refine bf (len:=4) (F:=fun n k (s:Int×aA)=>cP.l8 N n s.1 c all s.2 k) (s:=(_,_)) (fun k s=>aD s.1∧s.2.length≤3*k∧ ∀x∈s.2,G m dM x) ⟨hn,Nat.zero_le _,fun x hx=>nomatch hx⟩ (by omega) (fun n k s hk hI hr=> ?_) (fun n s hI=> ?_)
 all_goals unfold cP.l8 cP.xC
 ·refine au (fun _=> ?_) fun _=>by omega
  refine bf (len:=all.length) (F:=fun n' i (z:ax×av)=>cP.nV N (cP.l8 N n) n' s.1 c all s.2 (k:Int) z.1 z.2 i) (s:=(_,_)) (fun i z=>z.1.length≤i∧(∀y∈z.1,LQ y)∧Bg (8+i) z.2) ⟨Nat.zero_le _,(fun y hy=>nomatch hy),CF (by omega)⟩ (by omega) (fun n' i z hi hz dr=> ?_) (fun n' z hz=> ?_)
  all_goals unfold cP.nV cP.lN
  ·obtain⟨xw,GU,hz3⟩:=hz
   have hx:all.getD i bP∈all:=by rw[List.getD_eq_getElem?_getD,List.getElem?_eq_getElem hi];exact List.getElem_mem hi
   have hy:=iX _ hx
   rw[aq (x:=(i:Int)+1) (by omega) (by omega),aa i,Int.toNat_natCast]
   exact au (fun _=>aw ⟨by omega,by omega⟩ (aw hy.2 (ok_eq (fun _=>aw ⟨by omega,by omega⟩ (aG (by rw[List.length_singleton];omega) (aw ⟨by omega,by omega⟩ (af (aY N (by omega) hy.1.2.1) fun u hu=>af (qW N (by omega) (by omega) hu) fun u hu=>af (gA N (by omega) (by omega) hz3 (Bg.mono hu (by omega))) fun v hv=>dr (_,_) ⟨by dsimp only;rw[List.length_append,List.length_singleton];omega,fun y h=>(List.mem_append.1 h).elim (GU y) (fun h=>by rw[List.mem_singleton.1 h];exact hy.1),Bg.mono hv (by omega)⟩)))) fun _=>dr z ⟨by omega,GU,Bg.mono hz3 (by omega)⟩))) fun _=>by omega
  ·obtain⟨xw,GU,hz3⟩:=hz
   refine au (fun _=>by omega) fun _=>af (LC N (by omega) (Bg.mono hz3 (by omega)) hc.2.2.2.2.2.1) fun w hw=> ?_
   obtain⟨p,hp⟩: ∃p:Nat,w=(p:Int):=⟨w.toNat,by omega⟩
   subst hp
   refine bf (len:=p) (F:=fun Bv j (t:Int×aA)=>cP.CI N (cP.l8 N n) Bv t.1 c all t.2 (k:Int) z.1 (p:Int) j) (s:=s) (fun j t=>aD t.1∧t.2.length≤3*k+j∧ ∀x∈t.2,G m dM x) hI (by omega) (fun Bv j t hj ht Om=> ?_) (fun Bv t ht=> ?_)
   all_goals unfold cP.CI cP.Is
   ·obtain⟨qv,PI,Qj⟩:=ht
    refine au (fun _=> ?_) fun _=>by omega
    refine bf (len:=z.1.length) (F:=fun n3 i u=>cP.GZ N (cP.l8 N n) (cP.CI N (cP.l8 N n) Bv) n3 t.1 c all t.2 (k:Int) z.1 (p:Int) (j:Int) (t.1,(a6,((0:Int),((1:Int),bP)))) u i) (fun i u=>L2 i u) G.nil (by omega) (fun n3 i u hi hu hr3=> ?_) (fun n3 u hu=> ?_)
    all_goals unfold cP.GZ cP.Io
    ·have WB:=hu.1
     have hq:=WD GU i
     have sB:=hq
     unfold LQ aD w5 at sB
     have adS: ∀q:Int,0≤q→q<9223372036854775808→Ok (fun r=>LL m r.1) (cP.OM N (cP.l8 N n) (cP.CI N (cP.l8 N n) Bv) (cP.GZ N (cP.l8 N n) (cP.CI N (cP.l8 N n) Bv) n3) t.1 c all t.2 (k:Int) z.1 (p:Int) (j:Int) (t.1,(a6,((0:Int),((1:Int),bP)))) u (i:Int) q):=fun q h0 h1=>by
      unfold cP.OM cP.It
      obtain⟨e1,e2⟩:=OL (k:=p) h0 h1 (by omega) (by omega)
      have adT: ∀v:List Int,v.length=p→Cx v→Ok (fun r=>LL m r.1) (cP.j32 N (cP.l8 N n) (cP.CI N (cP.l8 N n) Bv) (cP.GZ N (cP.l8 N n) (cP.CI N (cP.l8 N n) Bv) n3) t.1 c all t.2 (k:Int) z.1 (p:Int) (j:Int) (t.1,(a6,((0:Int),((1:Int),bP)))) u (i:Int) v):=fun v Hg Qf=>by
       unfold cP.j32 cP.YH
       rw[aq (x:=(i:Int)+1) (by omega) (by omega),aa i]
       have hx:G 0 gB ((z.1.getD (i:Int).toNat bP).1,(v.getD (j:Int).toNat 0,())):=G2 (WD GU _).1 (oK Qf _)
       exact aw ⟨by omega,by omega⟩ (bI (fun _=>aw ⟨by omega,by omega⟩ (aw ⟨by omega,by omega⟩ (aG (by rw[List.length_singleton];omega) (hr3 _ (G.cat hu (G.one hx (Nat.le_refl 1))))))) fun _=>hr3 u (G.mono (by omega) hu))
      refine cg (Og N hN h1) (aw ⟨by omega,by omega⟩ (au (fun _=>aw ⟨by omega,by omega⟩ (aw ⟨by omega,by omega⟩ (adT _ (by rw[List.length_set];exact e1) fun y hy=> ?_))) fun _=>adT _ e1 e2))
      rcases List.mem_or_eq_of_mem_set hy with hy|rfl
      ·exact e2 y hy
      ·exact dJ _
     rw[Int.toNat_natCast]
     refine au (fun _=>aw ⟨by omega,by omega⟩ (au (fun dE=> ?_) fun Qq=> ?_)) fun _=>by omega
     ·have g: ∀x:Int,-9223372036854775808≤x∧x≠ -9223372036854775808→x<0→0≤W .i64 (0-x)∧W .i64 (0-x)<9223372036854775808:=fun x h1 h2=>by rw[aq (by omega) (by omega)];omega
      have gx:=g _ ⟨sB.2.1.1,sB.2.2⟩ dE
      exact adS _ gx.1 gx.2
     ·exact adS _ Qq sB.2.1.2
    ·have WB:=hu.1
     rw[aq (x:=(j:Int)+1) (by omega) (by omega),aa j]
     have hum:L2 m u:=G.mono (by omega) hu
     refine au (fun _=>by omega) fun _=>ok_eq (fun _=>Om t ⟨qv,by omega,Qj⟩) fun _=> ?_
     unfold ON
     refine af (Q:=fun r=>Bg 60000 r.1) (af (vA N (by omega) (by omega) hc hum _) fun r hr=>ag hr) fun a ha=>af (oP N (by omega) (by omega) ha) fun d hd=>af (s9 N hd) fun v hv=>bx (fun _=>ag G.nil) fun _=>aG (by rw[List.length_singleton];omega) (Om (_,_) ⟨dJ _,by dsimp only;rw[List.length_append,List.length_singleton];omega,fun x hx=> ?_⟩)
     rcases List.mem_append.1 hx with hx|hx
     ·exact Qj x hx
     ·rw[List.mem_singleton.1 hx];exact⟨qv,hum,hv,(show aD 1 from aV),aS,aS,trivial⟩
   ·rw[aq (x:=(k:Int)+1) (by omega) (by omega),aa k]
    exact au (fun _=>by omega) fun _=>hr t ⟨ht.1,by have:=ht.2.1;omega,ht.2.2⟩
 ·exact au (fun _=>by omega) fun _=>ag ⟨by have:=hI.2.1;dsimp only;omega,hI.2.2⟩
end VM
end
section
namespace VM
open Go VM.F
theorem rG(N:Nat)(hN:200000≤N){l:ax}(hl:l.length≤100000):Ok (fun _=>True) (kP N l):=by
 unfold kP kP.b
 refine hO (len:=l.length) (F:=fun n i=>kP.l2 N n l i) (by omega) (fun n i hi hr=> ?_) (fun n=> ?_)
 all_goals unfold kP.l2 kP.dI
 ·rw[aq (x:=(i:Int)+1) (by omega) (by omega),aa i]
  dsimp only
  repeat' first|exact hr|exact dk|refine aw ⟨by omega,by omega⟩ ?_|refine aw (by rw[aq (x:=(i:Int)-1) (by omega) (by omega)];omega) ?_|refine au (fun _=> ?_) (fun _=> ?_)|refine c8 (fun _=> ?_) (fun _=> ?_)|refine ok_eq (fun _=> ?_) (fun _=> ?_)|(exfalso;omega)
 ·exact au (fun _=>by omega) fun _=>dk
theorem LH(N:Nat)(hN:200000≤N){l:List Int}(hl:l.length≤100000):Ok (fun _=>True) (m6 N l):=by
 unfold m6 m6.b
 refine hO (len:=l.length) (F:=fun n i=>m6.l2 N n l i) (by omega) (fun n i hi hr=> ?_) (fun n=> ?_)
 all_goals unfold m6.l2 m6.dI
 ·rw[aq (x:=(i:Int)+1) (by omega) (by omega),aa i]
  dsimp only
  repeat' first|exact hr|exact dk|refine aw ⟨by omega,by omega⟩ ?_|refine aw (by rw[aq (x:=(i:Int)-1) (by omega) (by omega)];omega) ?_|refine au (fun _=> ?_) (fun _=> ?_)|refine c8 (fun _=> ?_) (fun _=> ?_)|refine ok_eq (fun _=> ?_) (fun _=> ?_)|(exfalso;omega)
 ·exact au (fun _=>by omega) fun _=>dk
theorem OO(N:Nat)(hN:200000≤N)(a:Int){L:aA}{l:ay}{m:Nat}(hm:m≤50000)(hL:LL m L)(hl:G m (.slice cL) l):Ok aD (fA N a L l):=by
 have h1:=hL.1
 have h2:=hl.1
 have i3:aD 3:=aV
 have i2:aD 2:=aV
 unfold fA fA.b
 refine bf (len:=l.length) (F:=fun n i v=>fA.l3 N n a L l v i) (fun _ v=>aD v) (show aD 1 from aV) (by omega) (fun n i v hi hv hr=> ?_) (fun n v hv=> ?_)
 all_goals unfold fA.l3 fA.ig
 ·rw[aq (x:=(i:Int)+1) (by omega) (by omega),aa i]
  exact au (fun _=>aw ⟨by omega,by omega⟩ (bI (fun _=>hr v hv) fun _=>aw ⟨by omega,by omega⟩ (af (zm N hN hm hL _) fun _ _=>og (fun _=>aw ⟨by omega,by omega⟩ (c8 (fun _=>hr _ (vz hv i3)) fun _=>hr _ (vz hv i2))) fun _=>hr _ (vz hv i2)))) fun _=>by omega
 ·refine au (fun _=>by omega) fun _=>bf (len:=L.length) (F:=fun n i v=>fA.nn N n a L v i) (fun _ v=>aD v) hv (by omega) (fun n i v hi hv hr=> ?_) (fun n v hv=> ?_)
  all_goals unfold fA.nn fA.lM
  ·rw[aq (x:=(i:Int)+1) (by omega) (by omega),aa i]
   exact au (fun _=>aw ⟨by omega,by omega⟩ (ok_eq (fun _=>aw ⟨by omega,by omega⟩ (ok_eq (fun _=>hr 4 aV) fun _=>hr v hv)) fun _=>hr v hv)) fun _=>by omega
  ·exact au (fun _=>by omega) fun _=>ag hv
theorem OP(N:Nat)(hN:200000≤N)(c:ae){d:ax}{u:List Int}{L:aA}{l:ay}{m:Nat}(h2:200≤m)(hm:m≤50000)(hd:L2 m d)(hu:u.length≤m)(hL:LL m L)(hl:G m (.slice cL) l):Ok (fun r=>L2 m r.1) (cm N c d u L l):=by
 have h3:=hd.1
 have h4:=hL.1
 have h5:=hl.1
 have hw:kG L:=fun y hy=>Nat.le_trans (hL.2 y hy).2.1.1 (by omega)
 unfold cm cm.b
 refine af (rG N hN (by omega)) fun _ _=>bx (fun _=>ag G.nil) fun _=>af (LH N hN (by omega)) fun _ _=>bx (fun _=>ag G.nil) fun _=>cg (uA N hN c (by omega) hw) (bx (fun _=>ag G.nil) fun _=>cg (mO N (by omega) hN) (bx (fun _=>ag G.nil) fun _=>gz (len:=13) (F:=fun n i s=>cm.l5 N n d u L l s i) (fun i s=>L2 i s) (fun n i s hi hI hr=> ?_) (fun n s hI=> ?_) 13 N 1 [] (by omega) (by omega) (by omega) G.nil))
 all_goals unfold cm.l5 cm.dn
 ·have hs:=hI.1
  refine c8 (fun _=> ?_) fun _=>by omega
  refine bf (len:=d.length) (F:=fun n' j (z:Int×Bool)=>cm.l9 N (cm.l5 N n) n' d u L l s (i:Int) z.1 z.2 j) (s:=(_,_)) (fun _ z=>aD z.1) aS (by omega) (fun n' j z hj hz dr=> ?_) (fun n' z hz=> ?_)
  all_goals unfold cm.l9 cm.sd
  ·rw[aq (x:=(j:Int)+1) (by omega) (by omega),aa j]
   exact au (fun _=>aw ⟨by omega,by omega⟩ (ok_eq (fun _=>aw ⟨by omega,by omega⟩ (dr (_,_) (G.at hd _).2.1)) fun _=>dr z hz)) fun _=>by omega
  ·refine au (fun _=>by omega) fun _=>bf (len:=u.length) (F:=fun n' j f=>cm.Bn N (cm.l5 N n) n' d u L l s (i:Int) z.1 f j) (fun _ _=>True) trivial (by omega) (fun n' j f hj _ dr=> ?_) (fun n' f _=> ?_)
   all_goals unfold cm.Bn cm.zd
   ·rw[aq (x:=(j:Int)+1) (by omega) (by omega),aa j]
    exact au (fun _=>og (fun _=>dr _ trivial) fun _=>aw ⟨by omega,by omega⟩ (dr _ trivial)) fun _=>by omega
   ·refine au (fun _=>by omega) fun _=>bf (len:=l.length) (F:=fun n' j f=>cm.uB N (cm.l5 N n) n' d u L l s (i:Int) z.1 f j) (fun _ _=>True) trivial (by omega) (fun n' j f hj _ dr=> ?_) (fun n' f _=> ?_)
    all_goals unfold cm.uB cm.rQ
    ·rw[aq (x:=(j:Int)+1) (by omega) (by omega),aa j]
     exact au (fun _=>og (fun _=>dr _ trivial) fun _=>aw ⟨by omega,by omega⟩ (dr _ trivial)) fun _=>by omega
    ·rw[aq (x:=(i:Int)+1) (by omega) (by omega),aa i]
     dsimp only
     exact au (fun _=>by omega) fun _=>og (fun _=>af (OO N hN _ hm hL hl) fun v hv=>aG (by rw[List.length_singleton];omega) (hr _ (G.cat hI (G.one (m:=1) (G2 (fj (by omega) (by omega)) (vz hz hv)) (Nat.le_refl 1))))) fun _=>hr s (G.mono (by omega) hI)
 ·exact c8 (fun _=>by omega) fun _=>ag (G.mono (by omega) hI)
theorem OQ(N:Nat)(hN:200000≤N){l:ax}(hl:l.length≤100000)(a:Int):Ok (fun _=>True) (m7 N l a):=by
 unfold m7 m7.b
 refine af (rG N hN hl) fun _ _=>bx (fun _=>dk) fun _=>hO (len:=l.length) (F:=fun n i=>m7.l4 N n l a i) (by omega) (fun n i hi hr=> ?_) (fun n=> ?_)
 all_goals unfold m7.l4 m7.ca
 ·rw[aq (x:=(i:Int)+1) (by omega) (by omega),aa i]
  exact au (fun _=>aw ⟨by omega,by omega⟩ (ok_eq (fun _=>aw ⟨by omega,by omega⟩ dk) fun _=>hr)) fun _=>by omega
 ·exact au (fun _=>by omega) fun _=>dk
theorem JY(N:Nat)(a:Int):Ok (fun _=>True) (OR N a):=by
 unfold OR
 exact ok_eq (fun _=>dk) fun _=>dk
theorem Iu(N:Nat)(hN:5000000≤N)(c:ae){b:ah}{d:ax}{m:Nat}(hm:m≤50000)(hb:G m aC b)(hd:L2 m d)(a k:Int):Ok (fun r=>G m (.slice (.int .i64)) r.1) (m8 N c b d a k):=by
 have hl:=hb.1.1
 have h2:=hd.1
 unfold m8 m8.b
 refine cg (dH N hN hm hb) (bx (fun _=>ag G.nil) fun _=>af (rG N (by omega) (by omega)) fun _ _=>bx (fun _=>ag G.nil) fun _=>bf (len:=b.1.length) (F:=fun n i s=>m8.l5 N n d a k b s i) (fun i s=>G i (.slice (.int .i64)) s) G.nil (by omega) (fun n i s hi hI hr=> ?_) (fun n s hI=> ?_))
 all_goals unfold m8.l5 m8.dn
 ·have hs:=hI.1
  rw[aq (x:=(i:Int)+1) (by omega) (by omega),aa i]
  have h1:=hr s (G.mono (by omega) hI)
  have hx:G 0 (.int .i64) (b.1.getD (i:Int).toNat bP).1:=(G.at hb.1 _).1
  exact au (fun _=>aw ⟨by omega,by omega⟩ (af (JY N _) fun _ _=>og (fun _=>bI (fun _=>af (mW N (by omega) hm hb.2.2.1 _ _) fun _ _=>au (fun _=>af (OQ N (by omega) (by omega) _) fun _ _=>ok_eq (fun _=>aG (by rw[List.length_singleton];omega) (hr _ (G.cat hI (G.one hx (Nat.le_refl 1))))) fun _=>h1) fun _=>h1) fun _=>h1) fun _=>h1)) fun _=>by omega
 ·exact au (fun _=>by omega) fun _=>ag (G.mono hl hI)
theorem zn(N:Nat)(hN:200000≤N){a:ay}{m:Nat}(hm:m≤50000)(h:G m (.slice cL) a)(id:Int):Ok aD (sQ N a id):=by
 refine kK (rq N (Nat.le_trans h.1 (by omega)) hN id) ?_
 unfold dQ
 split
 ·have: ∀l:ay,(∀x∈l,G m cL x)→aD (il id l):=by
   intro l
   induction l with
   |nil=>intro _;exact aS
   |cons x t ih=>
    intro hx
    have hi:=ih fun y hy=>hx y (List.mem_cons_of_mem _ hy)
    rw[nR]
    split
    ·split
     ·exact(hx x (List.mem_cons_self ..)).1
     ·exact hi
    ·exact hi
  exact this a h.2
 ·exact aS
abbrev L5(m:Nat)(l:bk):Prop:=G m (.slice oQ) l
theorem G5{m:Nat}{a b c d e:Int}(ha:aD a)(hb:aD b)(hc:aD c)(hd:aD d)(he:aD e):G m oQ (a,(b,(c,(d,(e,()))))):=⟨ha,hb,hc,hd,he,trivial⟩
theorem CJ(N:Nat)(hN:200000≤N){l:bk}{b:ah}{m k:Nat}(hm:m≤50000)(hb:G m aC b)(hk:k≤1000000)(hl:L5 k l){a d n:Int}(ha:aD a)(hd:aD d)(hn:aD n):Ok (fun r=>L5 (k+1) r) (Iv N l b a d n):=by
 have h1:=hl.1
 unfold Iv
 exact af (mW N hN hm hb.2.2.1 _ _) fun x hx=>au (fun _=>aG (by rw[List.length_singleton];omega) (ag (G.cat hl (G.one (m:=1) (G5 ha hd hn hx aS) (Nat.le_refl 1))))) fun _=>ag (G.mono (by omega) hl)
theorem OS(N:Nat)(hN:5000000≤N){c:ae}{b:ah}{d g:ax}{a:Int}{m:Nat}(hm:m≤50000)(hc:G m an c)(hb:G m aC b)(hd:L2 m d)(hg:L2 m g)(ha:aD a):Ok (fun r=>L5 1000000 r.1) (b8 N c b a d g):=by
 have h1:=hb.1.1
 have h2:=hd.1
 have h3:=hg.1
 have h4:=hb.2.1.1
 have hj: ∀l:bk,L5 1 l→Ok (fun r=>L5 1000000 r.1) (b8.j9 N a d g c b l):=fun l hl=>by
  unfold b8.j9 b8.Hw
  refine af (CJ N (by omega) hm hb (by omega) hl aV aV ha) fun l hl=>af (CJ N (by omega) hm hb (by omega) hl aV aV aS) fun l hl=>gz (len:=5) (F:=fun n k s=>b8.nn N n a d g c b s k) (fun k s=>L5 (3+m*k) s) (fun n k s hk hs hr=> ?_) (fun n s hs=> ?_) 5 N 1 l (by omega) (by omega) (by omega) (G.mono (by omega) hl)
  all_goals unfold b8.nn b8.lM
  ·have hmk:m*k≤m*4:=Nat.mul_le_mul_left m (by omega)
   refine c8 (fun _=>af (Iu N hN c hm hb hd _ _) fun t ht=> ?_) fun _=>by omega
   have htl:=ht.1
   refine bf (len:=t.1.length) (F:=fun n' j u=>b8.rP N (b8.nn N n) n' a d g c b u (k:Int) t.1 j) (fun j u=>L5 (3+m*k+j) u) hs (by omega) (fun n' j u hj hu dr=> ?_) (fun n' u hu=> ?_)
   all_goals unfold b8.rP b8.qM
   ·rw[aq (x:=(j:Int)+1) (by omega) (by omega),aa j]
    exact au (fun _=>aw ⟨by omega,by omega⟩ (af (CJ N (by omega) hm hb (by omega) hu (dJ _) aV (G.at ht _)) fun v hv=>dr v hv)) fun _=>by omega
   ·rw[aq (x:=(k:Int)+1) (by omega) (by omega),aa k]
    exact au (fun _=>by omega) fun _=>hr u (G.mono (by rw[Nat.mul_succ];omega) hu)
  ·refine c8 (fun _=>by omega) fun _=>bf (len:=b.1.length) (F:=fun n j u=>b8.CI N n a g c b u j) (fun j u=>L5 (3+m*5+j) u) hs (by omega) (fun n j u hj hu hr=> ?_) (fun n u hu=> ?_)
   all_goals unfold b8.CI b8.Is
   ·have WB:=hu.1
    have hx:aD (b.1.getD (j:Int).toNat bP).1:=(G.at hb.1 _).1
    rw[aq (x:=(j:Int)+1) (by omega) (by omega),aa j]
    have h0:=hr u (G.mono (by omega) hu)
    exact au (fun _=>aw ⟨by omega,by omega⟩ (af (JY N _) fun _ _=>bx (fun _=>h0) fun _=>ok_eq (fun _=>h0) fun _=>af (aY N (by omega) hc.2.2.1) fun p hp=>af (mW N (by omega) hm hb.2.2.1 _ _) fun q hq=>af (aY N (by omega) hq) fun q hq=>af (jn N (by omega) (by omega) (by omega) hp hq) fun y hy=>af (s9 N hy) fun v hv=>bx (fun _=>ag G.nil) fun _=>au (fun _=>aG (by rw[List.length_singleton];omega) (hr _ (G.mono (by omega) (G.cat hu (G.one (m:=1) (G5 (show aD 8 from aV) (show aD 7 from aV) hx hv aS) (Nat.le_refl 1)))))) fun _=>h0)) fun _=>by omega
   ·refine au (fun _=>by omega) fun _=>bf (len:=g.length) (F:=fun n j u=>b8.HT N n a g b u j) (fun j u=>L5 (3+m*5+m+j) u) (G.mono (by omega) hu) (by omega) (fun n j u hj hu hr=> ?_) (fun n u hu=> ?_)
    all_goals unfold b8.HT b8.EB
    ·have WB:=hu.1
     rw[aq (x:=(j:Int)+1) (by omega) (by omega),aa j]
     have h0:=hr u (G.mono (by omega) hu)
     dsimp only
     exact au (fun _=>aw ⟨by omega,by omega⟩ (af (rC N (by omega) hm hb.2.1 _) fun x hx=>aw ⟨by omega,by omega⟩ (aw ⟨by omega,by omega⟩ (af (mW N (by omega) hm hb.2.2.1 _ _) fun q hq=>og (fun _=>bI (fun _=>au (fun _=>aG (by rw[List.length_singleton];omega) (hr _ (G.mono (by omega) (G.cat hu (G.one (m:=1) (G5 (show aD 9 from aV) (show aD 5 from aV) hx.1 (RJ (G.at hg _).2.1 hq) aS) (Nat.le_refl 1)))))) fun _=>h0) fun _=>h0) fun _=>h0)))) fun _=>by omega
    ·exact au (fun _=>by omega) fun _=>ag (G.mono (by omega) hu)
 unfold b8 b8.b
 exact cg (dH N hN hm hb) (bx (fun _=>ag G.nil) fun _=>af (rG N (by omega) (by omega)) fun _ _=>bx (fun _=>ag G.nil) fun _=>af (BA N (by omega) (by omega)) fun _ _=>bx (fun _=>ag G.nil) fun _=>af (mj N (by omega) hm hb.1 _) fun _ _=>ok_eq (fun _=>ag G.nil) fun _=>af (zn N (by omega) hm hb.2.1 _) fun h hh=>bI (fun _=>af (CJ N (by omega) hm hb (by omega) (G.nil (m:=0)) aV aV hh) fun l hl=>hj l hl) fun _=>hj [] G.nil)
end VM
end
section
namespace VM
open Go VM.F
theorem LJ(N:Nat)(hN:5000000≤N)(c:ae){b:ah}{m:Nat}(hm:m≤50000)(hb:G m aC b):Ok (fun r=>aD r.1) (R2 N c b):=by
 unfold R2
 exact cg (dH N hN hm hb) (bx (fun _=>ag aS) fun _=>af (mW N (by omega) hm hb.2.2.1 _ _) fun x hx=>ok_eq (fun _=>ag aS) fun _=>ag (vz (dJ _) aS))
theorem Iw(N:Nat)(hN:5000000≤N)(c:ae){b:ah}{m:Nat}(hm:m≤50000)(hb:G m aC b):Ok (fun r=>aD r.1) (R3 N c b):=by
 unfold R3
 exact cg (dH N hN hm hb) (bx (fun _=>ag aS) fun _=>af (mW N (by omega) hm hb.2.2.1 _ _) fun x hx=>ag (vz hx aS))
theorem YI(N:Nat)(a b:Int):Ok (fun _=>True) (HD N a b):=by
 unfold HD
 repeat' first|exact dk|refine ok_eq (fun _=> ?_) (fun _=> ?_)|refine c8 (fun _=> ?_) (fun _=> ?_)
theorem LK(N:Nat)(hN:200000≤N)(l:bk):Ok (fun r=>r=true→l.length≤64) (m9 N l):=by
 have hf:Ok (fun r=>r=true→l.length≤64) (some false):=ag fun h=>nomatch h
 unfold m9 m9.b
 refine au (fun _=>hf) fun hl=>hO (len:=l.length) (F:=fun n i=>m9.l4 N n l i) (by omega) (fun n i hi hr=> ?_) (fun n=> ?_)
 all_goals unfold m9.l4 m9.ca
 ·rw[aq (x:=(i:Int)+1) (by omega) (by omega),aa i]
  dsimp only
  repeat' first|exact hr|exact hf|refine aw ⟨by omega,by omega⟩ ?_|refine aw (by rw[aq (x:=(i:Int)-1) (by omega) (by omega)];omega) ?_|refine au (fun _=> ?_) (fun _=> ?_)|refine c8 (fun _=> ?_) (fun _=> ?_)|refine ok_eq (fun _=> ?_) (fun _=> ?_)|(exfalso;omega)|refine af (YI N _ _) fun _ _=> ?_|refine bx (fun _=> ?_) (fun _=> ?_)
 ·exact au (fun _=>by omega) fun _=>ag fun _=>by omega
theorem JZ{σ β:Type}{P:β→Prop}{F:Nat→Int→σ→Option β}{len:Nat}(I:σ→Prop)
  (hs: ∀n i s,i<len→I s→(∀j s',i<j→j≤len→I s'→Ok P (F n (j:Int) s'))→Ok P (F (n+1) (i:Int) s)) (he: ∀n s,I s→Ok P (F (n+1) (len:Int) s)):
  ∀m n i s,len-i≤m→m<n→i≤len→I s→Ok P (F n (i:Int) s)
 |m,0,i,s,_,hn,_,_=>by omega
 |m,n+1,i,s,hm,hn,hi,hI=>by
  by_cases h:i<len
  ·exact hs n i s h hI fun j s' hj Wn rZ=>JZ I hs he (m-1) n j s' (by omega) (by omega) Wn rZ
  ·have:i=len:=by omega
   subst this
   exact he n s hI
theorem G5q{m:Nat}{x:uE}{q:Int}(h:G m oQ x)(hq:aD q):G m oQ (x.1,(x.2.1,(x.2.2.1,(x.2.2.2.1,(q,x.2.2.2.2.2))))):=⟨h.1,h.2.1,h.2.2.1,h.2.2.2.1,hq,trivial⟩
theorem adU: ∀{w:List Int},Pos w→0≤w.sum
 |[],_=>Int.le_refl _
 |x::t,h=>by
  rw[List.sum_cons]
  have:=h x (List.mem_cons_self ..)
  have:=adU (w:=t) fun y hy=>h y (List.mem_cons_of_mem _ hy)
  omega
theorem LM{t:Int}{w:List Int}(h1:t<9223372036854775808)(h:(mS t w).2=0):(mS t w).1.length=w.length∧Cx (mS t w).1:=by
 unfold mS at h ⊢
 split at h
 ·exact absurd h (by decide)
 ·split at h
  ·exact absurd h (by decide)
  ·rename_i h2 h3
   split at h
   ·split at h
    ·rename_i h4 h5
     rw[if_neg h2,if_neg h3,if_pos h4,if_pos h5]
     exact⟨List.length_replicate ..,fun x hx=>by rw[List.eq_of_mem_replicate hx];decide⟩
    ·exact absurd h (by decide)
   ·rename_i h4
    rw[if_neg h2,if_neg h3,if_neg h4]
    have hm:may w=true:=by
     by_cases hm:may w=true
     ·exact hm
     ·exact absurd (Or.inr (Bool.eq_false_iff.2 hm)) h2
    have hp:=(kb.1 hm).2
    have h0:0≤t:=by omega
    have hS:0<w.sum:=by have:=adU hp;omega
    exact⟨jT t w,WC (pG h0 hS hp) (by rw[pF h0 hS];exact h1)⟩
theorem Ix(N:Nat)(hN:5000000≤N){l:bk}{q:Int}{m:Nat}(hl:L5 m l)(hq:aD q):Ok (fun r=>L5 64 r.1∧aD r.2.1) (cz N l q):=by
 have eC: ∀e:Int,Ok (fun r:bk×Int×Int=>L5 64 r.1∧aD r.2.1) (some ([],((0:Int),e))):=fun e=>ag ⟨G.nil,aS⟩
 unfold cz cz.b
 refine af (LK N (by omega) l) fun z hz=>bx (fun _=>eC _) fun ht=>au (fun _=>eC _) fun _=> ?_
 have sS:=hz ht
 rw[List.nil_append]
 refine aG (by rw[List.length_nil];omega) (JZ (len:=l.length) (F:=fun n i (s:bk×Int)=>cz.l5 N n s.1 s.2 i) (fun s=>s.1.length=l.length∧L5 64 s.1∧aD s.2) (fun n i s hi hI hr=> ?_) (fun n s hI=> ?_) l.length N 0 (l,q) (by omega) (by omega) (by omega) ⟨rfl,⟨sS,fun x hx=>G.mono (m:=0) (Nat.zero_le _) (hl.2 x hx)⟩,hq⟩)
 all_goals unfold cz.l5 cz.dn
 ·obtain⟨I5,Wr,hs3⟩:=hI
  refine au (fun _=> ?_) fun _=>by omega
  have fin: ∀(k:Nat) (w:List Int),i<k→k≤l.length→w.length=k-i→Cx w→Ok (fun r=>L5 64 r.1∧aD r.2.1) (cz.GY N (cz.l5 N n) s.1 s.2 (i:Int) (k:Int) w):=fun k w hk zZ hw Ic=>by
   unfold cz.GY cz.zl
   have xW:aD (mn (w3 w.sum).1 s.2):=RJ (Ih _) hs3
   refine cg (sL N (by omega) Ic (by omega)) (cg (oc N _) (bx (fun _=>eC _) fun _=>cg (vw N hN xW.2 Ic (by omega)) (bI (fun _=>eC _) fun h0=> ?_)))
   obtain⟨e1,e2⟩:=LM xW.2 h0
   generalize (mS (mn (w3 w.sum).1 s.2) w).1=v at*
   refine gz (len:=k) (F:=fun n' j (z:bk×Int)=>cz.uB N (cz.l5 N n) n' z.1 z.2 (i:Int) (k:Int) v j) (fun j z=>i≤j∧z.1.length=l.length∧L5 64 z.1∧aD z.2) (fun n' j z hj hz dr=> ?_) (fun n' z hz=> ?_) k N i s (by omega) (by omega) (by omega) ⟨Nat.le_refl i,I5,Wr,hs3⟩
   all_goals unfold cz.uB cz.rQ
   ·obtain⟨nH,xw,GU,hz3⟩:=hz
    dsimp only
    rw[aq (x:=(j:Int)+1) (by omega) (by omega),aa j,aq (x:=(j:Int)-i) (by omega) (by omega)]
    exact au (fun _=>aw ⟨by omega,by omega⟩ (aw ⟨by omega,by omega⟩ (aw ⟨by omega,by omega⟩ (dr (_,_) ⟨by omega,by dsimp only;rw[List.length_set];exact xw,G.set GU (G5q (G.at GU _) (oK e2 _)) _,dJ _⟩)))) fun _=>by omega
   ·exact au (fun _=>by omega) fun _=>hr k z hk zZ hz.2
  refine gz (len:=l.length) (F:=fun n' k w=>cz.l8 N (cz.l5 N n) n' s.1 s.2 (i:Int) k w) (fun k w=>i≤k∧w.length=k-i∧Cx w) (fun n' k w hk hw dr=> ?_) (fun n' w hw=> ?_) l.length N i [] (by omega) (by omega) (by omega) ⟨Nat.le_refl i,by rw[List.length_nil];omega,fun x hx=>nomatch hx⟩
  all_goals unfold cz.l8 cz.xC
  ·obtain⟨hik,hwl,Ic⟩:=hw
   rw[aq (x:=(k:Int)+1) (by omega) (by omega),aa k]
   refine au (fun _=>aw ⟨by omega,by omega⟩ (aw ⟨by omega,by omega⟩ (ok_eq (fun _=>aw ⟨by omega,by omega⟩ (aG (by rw[List.length_singleton];omega) (dr _ ⟨by omega,by rw[List.length_append,List.length_singleton];omega,fun x hx=> ?_⟩))) fun gH=> ?_))) fun _=>by omega
   ·rcases List.mem_append.1 hx with hx|hx
    ·exact Ic x hx
    ·rw[List.mem_singleton.1 hx];exact(G.at Wr _).2.2.2.1
   ·refine fin k w ?_ (by omega) hwl Ic
    by_cases e:k=i
    ·subst e;exact absurd rfl gH
    ·omega
  ·exact au (fun _=>by omega) fun _=>fin l.length w hi (Nat.le_refl _) hw.2.1 hw.2.2
 ·exact au (fun _=>by omega) fun _=>ag ⟨hI.2.1,hI.2.2⟩
abbrev R0:cS:=((0:Int),((0:Int),(([]:bk),((0:Int),()))))
theorem LN(N:Nat)(hN:5000000≤N){c:ae}{b:ah}{d g:ax}{a:Int}{m:Nat}(h2:200≤m)(hm:m≤40000)(hc:G m an c)(hb:G m aC b)(hd:L2 m d)(hg:L2 m g)(ha:aD a):Ok (fun r=>G m aC r.1∧G m dS r.2.1) (gE N c b a d g):=by
 have eC: ∀e:Int,Ok (fun r:ah×cS×Int=>G m aC r.1∧G m dS r.2.1) (some ((a6,(cn,(bc,(bc,(cQ,(cY,())))))),(R0,e))):=fun e=>ag ⟨G.eZ,G.zero m dS⟩
 unfold gE gE.b
 refine af (OS N hN (by omega) hc hb hd hg ha) fun l hl=>ok_eq (fun _=>eC _) fun _=>ok_eq (fun _=>eC _) fun _=>af (LJ N hN c (by omega) hb) fun q hq=>bI (fun _=>eC _) fun _=>bI (fun _=>eC _) fun _=>af (Ix N hN hl hq) fun z ⟨xw,GU⟩=>bI (fun _=>eC _) fun _=> ?_
 have hzl:=xw.1
 have hj: ∀(p:bl) (r:cS) (t:bk) (x k n:Int),fO 1000 p→G m dS r→L5 64 t→aD x→Ok (fun r=>G m aC r.1∧G m dS r.2.1) (gE.j26 N b (a6,(cn,(bc,(bc,(cQ,(cY,())))))) R0 p r t x k n):=fun p r t x k n hp hr ht hx=>by
  have Qk:=hp.1
  unfold gE.j26 gE.YJ
  exact af (aY N (by omega) hx) fun v hv=>af (n6 N (by omega) _ _ _ _ (Bg.mono hv (by omega))) fun u hu=>aG (by have:=hu.1;omega) (af (n0 N (by omega) h2 (by omega) hb G.nil (fO.mono (fO.app hp hu) (by omega))) fun w hw=>bI (fun _=>eC _) fun _=>ag ⟨hw,hr.1,hr.2.1,G.mono (by omega) ht,hr.2.2.2⟩)
 refine bf (len:=z.1.length) (F:=fun n i (s:bl×cS×bk)=>gE.Dd N n a c b (a6,(cn,(bc,(bc,(cQ,(cY,())))))) R0 z.1 z.2.1 s.1 s.2.1 s.2.2 i) (s:=(_,(_,_))) (fun i s=>fO (2*i) s.1∧G m dS s.2.1∧L5 i s.2.2) ⟨fO.nil,⟨ha,hq,G.nil,GU,trivial⟩,G.nil⟩ (by omega) (fun n i s hi hI hr=> ?_) (fun n s hI=> ?_)
 all_goals unfold gE.Dd gE.Co
 ·obtain⟨h4,h5,h6⟩:=hI
  have hp:=h4.1
  have ht:=h6.1
  have hx:G 0 oQ (z.1.getD (i:Int).toNat jC):=G.at xw _
  rw[aq (x:=(i:Int)+1) (by omega) (by omega),aa i]
  exact au (fun _=>aw ⟨by omega,by omega⟩ (au (fun _=>aw ⟨by omega,by omega⟩ (aG (by rw[List.length_singleton];omega) (aw ⟨by omega,by omega⟩ (aw ⟨by omega,by omega⟩ (aw ⟨by omega,by omega⟩ (af (aY N (by omega) hx.2.2.2.2.1) fun v hv=>af (n6 N (by omega) _ _ _ _ (Bg.mono hv (by omega))) fun u hu=>aG (by have:=hu.1;omega) (hr (_,(_,_)) ⟨fO.mono (fO.app h4 hu) (by omega),⟨h5.1,h5.2.1,G.nil,h5.2.2.2⟩,G.cat h6 (G.one hx (Nat.le_refl 1))⟩))))))) fun _=>hr s ⟨fO.mono h4 (by omega),h5,G.mono (by omega) h6⟩)) fun _=>by omega
 ·obtain⟨h4,h5,h6⟩:=hI
  have hp:=h4.1
  dsimp only
  exact au (fun _=>by omega) fun _=>af (aY N (by omega) GU) fun v hv=>af (n6 N (by omega) _ _ _ _ (Bg.mono hv (by omega))) fun u hu=>aG (by have:=hu.1;omega) (af (Iw N hN c (by omega) hb) fun x hx=>af (zn N (by omega) (by omega) hb.2.1 _) fun h hh=>bI (fun _=>hj _ _ _ _ _ _ (fO.mono (fO.app h4 hu) (by omega)) h5 (G.mono (by omega) h6) hx) fun _=>hj _ _ _ _ _ _ (fO.mono (fO.app h4 hu) (by omega)) h5 (G.mono (by omega) h6) hx)
end VM
end
section
namespace VM
open Go VM.F
theorem LO(N:Nat)(hN:5000000≤N){t:Int}{w:List Int}(ht:t<9223372036854775808)(hw:Cx w)(hl:w.length≤1000000):Ok (fun r=>r.2.2=0→r.1.length=w.length∧Cx r.1) (c0 N t w w):=by
 refine kK (Ie N hN ht hw hw hl) fun h0=> ?_
 have f:=Ig ht hw h0
 have c:=f.c
 have hl2:=c.l2
 refine⟨hl2,fun x hx=> ?_⟩
 obtain⟨i,hi,e⟩:=List.getElem_of_mem hx
 have h1:=c.le i (by omega)
 have h2:=(c.pc i).2
 have h3:=c.po i
 rw[List.getD_eq_getElem?_getD (l:=(pJ t w w).1),List.getElem?_eq_getElem hi,Option.getD_some,e]at h1 h3
 exact⟨by omega,by omega⟩
theorem R4(N:Nat)(hN:5000000≤N)(c:ae){b:ah}{m:Nat}(hm:m≤40000)(hb:G m aC b){a:Int}(ha:aD a):Ok (fun r=>L3 (m+1) r.1) (pN N c b a):=by
 have w:=(G.wf (by omega) hb).w
 have hl:=hb.2.2.2.1.1
 unfold pN pN.b
 refine cg (dH N hN (by omega) hb) (bx (fun _=>ag G.nil) fun _=>au (fun _=>ag G.nil) fun _=>c8 (fun _=>ag G.nil) fun _=>cg (xG N w.s (by omega) 0 a) (ok_eq (fun _=>ag G.nil) fun _=> ?_))
 have hq:=Oc w.qs 0 a
 generalize s4 b.2.2.2.1 0 a=q at*
 refine bf (len:=b.2.2.2.1.length) (F:=fun n i (s:List Int×List Int)=>pN.By N n a b q s.1 s.2 i) (s:=(_,_)) (fun i s=>s.1.length≤i∧s.2.length=s.1.length∧Cx s.1∧Cx s.2) ⟨Nat.zero_le _,rfl,(fun x hx=>nomatch hx),fun x hx=>nomatch hx⟩ (by omega) (fun n i s hi hI hr=> ?_) (fun n s hI=> ?_)
 all_goals unfold pN.By pN.zj
 ·obtain⟨h1,h2,h3,h4⟩:=hI
  have hx:G 0 fN (b.2.2.2.1.getD (i:Int).toNat aW):=G.at hb.2.2.2.1 _
  rw[aq (x:=(i:Int)+1) (by omega) (by omega),aa i]
  have h0:=hr s ⟨by omega,h2,h3,h4⟩
  have sn: ∀{l:List Int} {x:Int},Cx l→aD x→Cx (l++[x]):=fun hl hx y hy=>(List.mem_append.1 hy).elim (hl y) fun hy=>by rw[List.mem_singleton.1 hy];exact hx
  dsimp only
  exact au (fun _=>aw ⟨by omega,by omega⟩ (bI (fun _=>ok_eq (fun _=>og (fun _=>aG (by rw[List.length_singleton];omega) (aG (by rw[List.length_singleton];omega) (hr (_,_) ⟨by dsimp only;rw[List.length_append,List.length_singleton];omega,by dsimp only;rw[List.length_append,List.length_append,List.length_singleton,List.length_singleton];omega,sn h3 hx.1,sn h4 (vz hx.2.2.1 (dJ _))⟩))) fun _=>h0) fun _=>h0) fun _=>h0)) fun _=>by omega
 ·obtain⟨h1,h2,h3,h4⟩:=hI
  refine au (fun _=>by omega) fun _=>af (LO N hN (vz hq (dJ _)).2 h4 (by omega)) fun z hz=>bI (fun _=>ag G.nil) fun h0=> ?_
  obtain⟨e1,e2⟩:=hz h0
  refine bf (len:=z.1.length) (F:=fun n i u=>pN.YK N n a q s.1 z.1 u i) (fun i u=>L3 (1+i) u) (G.one (m:=1) (G3 aS ha (dJ _)) (Nat.le_refl 1)) (by omega) (fun n i u hi hu hr=> ?_) (fun n u hu=> ?_)
  all_goals unfold pN.YK pN.YL
  ·have WB:=hu.1
   rw[aq (x:=(i:Int)+1) (by omega) (by omega),aa i]
   have h0:=hr u (G.mono (by omega) hu)
   have put: ∀x:Int,aD x→Ok (fun r=>L3 (m+1) r.1) (cond (small (u.length+[((s.1.getD (i:Int).toNat 0,(a,(x,()))):cy)].length)) (pN.YK N n a q s.1 z.1 (u++[(s.1.getD (i:Int).toNat 0,(a,(x,())))]) ((i+1:Nat):Int)) none):=fun x hx=>aG (by rw[List.length_singleton];omega) (hr _ (G.mono (by omega) (G.cat hu (G.one (m:=1) (G3 (oK h3 _) ha hx) (Nat.le_refl 1)))))
   dsimp only
   exact au (fun _=>aw ⟨by omega,by omega⟩ (au (fun _=>bI (fun _=>aw ⟨by omega,by omega⟩ (put _ (dJ _))) fun _=>h0) fun _=>bI (fun _=>aw ⟨by omega,by omega⟩ (put _ (oK e2 _))) fun _=>h0)) fun _=>by omega
  ·exact au (fun _=>by omega) fun _=>ag (G.mono (by omega) hu)
theorem R5(N:Nat)(hN:5000000≤N){c:ae}{b:ah}{m:Nat}(h2:200≤m)(hm:m≤7000)(hc:G 5 an c)(hb:G m aC b):Ok (fun r=>G m aC r.1) (zo N c b):=by
 have DC:=hc.1.1
 unfold zo zo.b
 refine cg (dH N hN (by omega) hb) (bx (fun _=>ag G.eZ) fun _=>bf (len:=c.1.length) (F:=fun n i s=>zo.l5 N n c b (a6,(cn,(bc,(bc,(cQ,(cY,())))))) s i) (fun i s=>L3 ((m+1)*i) s) G.nil (by omega) (fun n i s hi hI hr=> ?_) (fun n s hI=> ?_))
 all_goals unfold zo.l5 zo.dn
 ·have hs:=hI.1
  have hmi:(m+1)*i≤(m+1)*5:=Nat.mul_le_mul_left _ (by omega)
  rw[aq (x:=(i:Int)+1) (by omega) (by omega),aa i]
  exact au (fun _=>af (R4 N hN c (by omega) hb (fj (by omega) (by omega))) fun r PH=>bI (fun _=>ag G.eZ) fun _=>aG (by have:=PH.1;omega) (hr _ (G.mono (by rw[Nat.mul_succ];omega) (G.cat hI PH)))) fun _=>by omega
 ·have hmi:(m+1)*c.1.length≤(m+1)*5:=Nat.mul_le_mul_left _ (by omega)
  exact au (fun _=>by omega) fun _=>af (n0 N (by omega) h2 (by omega) hb (G.mono (by omega) hI) fO.nil) fun r hr=>ag hr
end VM
end
section
namespace VM
open Go VM.F
theorem R6(N:Nat)(hN:200000≤N){l:ay}{m:Nat}(hm:m≤50000)(h:G m (.slice cL) l)(a:Int):Ok (fun r=>G 0 cL r.1) (sj N l a):=by
 have hl:=h.1
 have hz:G 0 cL aE:=G.zero 0 cL
 unfold sj sj.b
 refine cg (mO N (by omega) hN) (bx (fun _=>ag hz) fun _=>bf (len:=l.length) (F:=fun n i (z:bs×Bool)=>sj.l6 N n l a aE z.1 z.2 i) (s:=(_,_)) (fun _ z=>G 0 cL z.1) hz (by omega) (fun n i z hi hI hr=> ?_) (fun n z hI=> ?_))
 all_goals unfold sj.l6 sj.mg
 ·rw[aq (x:=(i:Int)+1) (by omega) (by omega),aa i]
  have hx:G 0 cL (l.getD (i:Int).toNat aE):=G.at h _
  have h1:=hr z hI
  have h2:=hr (_,true) hx
  repeat' first|exact h1|exact h2|refine aw ⟨by omega,by omega⟩ ?_|refine au (fun _=> ?_) (fun _=> ?_)|refine ok_eq (fun _=> ?_) (fun _=> ?_)|refine bx (fun _=> ?_) (fun _=> ?_)|(exfalso;omega)
 ·exact au (fun _=>by omega) fun _=>ag hI
theorem GL{m:Nat}{a b d e f:Int}{l:ax}(ha:aD a)(hl:L2 m l)(hb:aD b)(hd:aD d)(he:aD e)(hf:aD f):G m dM (a,(l,(b,(d,(e,(f,())))))):=⟨ha,hl,hb,hd,he,hf,trivial⟩
theorem LL.app{m:Nat}{k:Nat}{l:aA}{x:cF}(hl:l.length≤k∧ ∀y∈l,G m dM y)(hx:G m dM x):(l++[x]).length≤k+1∧ ∀y∈l++[x],G m dM y:=
 ⟨by rw[List.length_append,List.length_singleton];have:=hl.1;omega,fun y hy=>(List.mem_append.1 hy).elim (hl.2 y) fun hy=>by rw[List.mem_singleton.1 hy];exact hx⟩
theorem OT(N:Nat)(hN:5000000≤N)(c:ae){b:ah}{L:aA}{l:ay}{m:Nat}(h2:200≤m)(hm:m≤2000)(hb:G m aC b)(hL:LL m L)(hl:G m (.slice cL) l):Ok (fun r=>G m aC r.1∧LL m r.2.1) (jk N c b L l):=by
 have eC: ∀e:Int,Ok (fun r:ah×aA×Int=>G m aC r.1∧LL m r.2.1) (some ((a6,(cn,(bc,(bc,(cQ,(cY,())))))),([],e))):=fun e=>ag ⟨G.eZ,G.nil⟩
 have h3:=hL.1
 have h4:=hl.1
 have hw:kG L:=fun y hy=>Nat.le_trans (hL.2 y hy).2.1.1 (by omega)
 unfold jk jk.b
 refine cg (dH N hN (by omega) hb) (bx (fun _=>eC _) fun _=>cg (uA N (by omega) c (by omega) hw) (bx (fun _=>eC _) fun hk=>cg (mO N (by omega) (by omega)) (bx (fun _=>eC _) fun _=> ?_)))
 have Ki:L.length≤12:=by
  unfold ll at hk
  exact of_decide_eq_true (Bool.and_eq_true_iff.1 (Bool.and_eq_true_iff.1 hk).2).1
 refine bf (len:=L.length) (F:=fun n i (z:aj×bl×aA)=>jk.l7 N n L l b (a6,(cn,(bc,(bc,(cQ,(cY,())))))) z.1 z.2.1 z.2.2 i) (s:=(_,(_,_))) (fun i z=>L3 (2*m*i) z.1∧fO (2*i) z.2.1∧z.2.2.length≤i∧ ∀y∈z.2.2,G m dM y) ⟨G.nil,fO.nil,Nat.zero_le _,fun y hy=>nomatch hy⟩ (by omega) (fun n i z hi hI hr=> ?_) (fun n z hI=> ?_)
 all_goals unfold jk.l7 jk.lD
 ·obtain⟨h5,h6,h7⟩:=hI
  have h8:=h6.1
  have h9:=h7.1
  have hmi:2*m*i≤2*m*12:=Nat.mul_le_mul_left _ (by omega)
  have hms:2*m*(i+1)=2*m*i+2*m:=Nat.mul_succ _ _
  have hx:G m dM (L.getD (i:Int).toNat ((0:Int),(a6,aE))):=G.at hL _
  have hxl:=hx.2.1.1
  rw[aq (x:=(i:Int)+1) (by omega) (by omega),aa i]
  dsimp only
  rw[List.nil_append]
  have put: ∀x:cF,G m dM x→Ok (fun r=>G m aC r.1∧LL m r.2.1) (cond (small (z.2.2.length+[x].length)) (jk.l7 N n L l b (a6,(cn,(bc,(bc,(cQ,(cY,())))))) z.1 z.2.1 (z.2.2++[x]) ((i+1:Nat):Int)) none):=fun x hx=>aG (by rw[List.length_singleton];omega) (hr (z.1,(z.2.1,z.2.2++[x])) ⟨G.mono (by omega) h5,fO.mono h6 (by omega),LL.app h7 hx⟩)
  refine au (fun _=>aw ⟨by omega,by omega⟩ (aG (by rw[List.length_nil];omega) (bI (fun _=>put _ hx) fun _=>af (R6 N (by omega) (by omega) hl _) fun w hw=>bx (fun _=>put _ (GL hx.1 hx.2.1 hx.2.2.1 (show aD 3 from aV) hx.2.2.2.2.1 hx.2.2.2.2.2.1)) fun _=>af (zn N (by omega) (by omega) hb.2.1 _) fun h hh=>ok_eq (fun _=>eC _) fun _=>af (rE N (by omega) (by omega) hb _) fun _ _=>ok_eq (fun _=>eC _) fun _=> ?_))) fun _=>by omega
  have oF:=GL hx.1 hx.2.1 hx.2.2.1 (show aD 2 from aV) hw.2.2.1 hw.2.2.2.1
  generalize hX:(((L.getD (i:Int).toNat ((0:Int),(a6,aE))).1,((L.getD (i:Int).toNat ((0:Int),(a6,aE))).2.1,((L.getD (i:Int).toNat ((0:Int),(a6,aE))).2.2.1,((2:Int),(w.1.2.2.1,(w.1.2.2.2.1,())))))):cF)=X at oF
  have hXl:X.2.1.length≤m:=oF.2.1.1
  refine bf (len:=X.2.1.length) (F:=fun n' j u=>jk.qc N (jk.l7 N n) n' L l b (a6,(cn,(bc,(bc,(cQ,(cY,())))))) u z.2.1 z.2.2 (i:Int) X w.1 h j) (s:=z.1) (fun j u=>L3 (2*m*i+2*j) u) h5 (by omega) (fun n' j u hj hu dr=> ?_) (fun n' u hu=> ?_)
  all_goals unfold jk.qc jk.pq
  ·have WB:=hu.1
   have hy:G m gB (X.2.1.getD (j:Int).toNat bP):=G.at oF.2.1 _
   dsimp only
   rw[aq (x:=(j:Int)+1) (by omega) (by omega),aa j]
   exact au (fun _=>aw ⟨by omega,by omega⟩ (aw ⟨by omega,by omega⟩ (aw ⟨by omega,by omega⟩ (aw ⟨by omega,by omega⟩ (aG (by rw[rD];omega) (dr _ (G.mono (by omega) (G.cat hu (G.two (m:=2) (G3 aS hy.1 (dJ _)) (G3 hh hy.1 hy.2.1) (Nat.le_refl 2)))))))))) fun _=>by omega
  ·refine au (fun _=>by omega) fun _=>af (aY N (by omega) hw.2.2.2.1) fun v hv=>af (n6 N (by omega) _ _ _ _ (Bg.mono hv (by omega))) fun p hp=>aG (by have:=hp.1;omega) (aG (by rw[List.length_singleton];omega) ?_)
   rw[aq (x:=(i:Int)+1) (by omega) (by omega),aa i]
   exact hr (_,(_,_)) ⟨G.mono (by omega) hu,fO.mono (fO.app h6 hp) (by omega),LL.app h7 oF⟩
 ·obtain⟨h5,h6,h7⟩:=hI
  have hmi:2*m*L.length≤2*m*12:=Nat.mul_le_mul_left _ (by omega)
  exact au (fun _=>by omega) fun _=>af (n0 N (by omega) h2 (by omega) hb (G.mono (by omega) h5) (fO.mono h6 (by omega))) fun r hr=>bI (fun _=>eC _) fun _=>ag ⟨hr,Nat.le_trans h7.1 (by omega),h7.2⟩
end VM
end
section
namespace VM
open Go VM.F
theorem OU{l:ay}(h:im l=true):l.length≤24:=by
 unfold im at h
 rw[Bool.and_true]at h
 have h:=of_decide_eq_true h
 have key: ∀i,i<l.length→(i:Int)+1≤(l.getD i aE).1:=by
  intro i
  induction i with
  |zero=>intro hi;exact(h 0 hi).1.1.1
  |succ i ih=>
   intro hi
   have h1:=ih (by omega)
   have h2:(l.getD i aE).1<(l.getD (i+1) aE).1:=(h (i+1) hi).2.1 (by omega)
   have g: ∀a b:Int,(i:Int)+1≤a→a<b→((i+1:Nat):Int)+1≤b:=fun a b h1 h2=>by omega
   exact g _ _ h1 h2
 by_cases hl:l.length≤24
 ·exact hl
 ·have h1:=key 24 (by omega)
  have h2:=(h 24 (by omega)).1.1.2
  have g: ∀a:Int,((24:Nat):Int)+1≤a→a≤24→False:=fun a h1 h2=>by omega
  exact(g _ h1 h2).elim
theorem LP(N:Nat)(hN:5000000≤N){c:ae}{b:ah}{m:Nat}(hm:m≤40000)(hc:G m an c)(hb:G m aC b)(a:Int):Ok (fun r=>aD r.1) (R7 N c b a):=by
 unfold R7 ON
 exact cg (dH N hN (by omega) hb) (bx (fun _=>ag aS) fun _=>af (rC N (by omega) (by omega) hb.2.1 _) fun _ _=>bx (fun _=>ag aS) fun _=>af (E5 N (by omega) (by omega) hb.2.2.2.1 _) fun l hl=>af (Q:=fun r=>Bg 60000 r.1) (af (vA N (by omega) (by omega) hc hl _) fun r hr=>ag hr) fun u hu=>af (rF N (by omega) (by omega) hb _) fun g hg=>c8 (fun _=>ag aS) fun _=>af (s9 N hu) fun v hv=>og (fun _=>au (fun _=>ag hv) fun _=>ag hg) fun _=>ag hg)
theorem OV(N:Nat)(hN:200000≤N){l:aj}{a d:Int}{m:Nat}(hm:m≤50000)(h:L3 m l)(ha:aD a)(hd:aD d):Ok (fun r=>L3 (2*m) r) (lV N l a d):=by
 have hl:=h.1
 unfold lV lV.b
 refine cg (mh N (by omega) hN) (bx (fun _=>ag G.nil) fun _=>ok_eq (fun _=>ag G.nil) fun _=>au (fun _=>ag G.nil) fun _=>au (fun _=>ag G.nil) fun _=>au (fun _=>ag G.nil) fun _=>au (fun _=>ag G.nil) fun _=>bf (len:=l.length) (F:=fun n i s=>lV.l5 N n l a d s i) (fun i s=>L3 (2*i) s) G.nil (by omega) (fun n i s hi hI hr=> ?_) (fun n s hI=> ?_))
 all_goals unfold lV.l5 lV.dn
 ·have hs:=hI.1
  have hx:=G.at h (i:Int).toNat
  dsimp only
  rw[aq (x:=(i:Int)+1) (by omega) (by omega),aa i]
  have h1:=hr s (G.mono (by omega) hI)
  exact au (fun _=>aw ⟨by omega,by omega⟩ (ok_eq (fun _=>aw ⟨by omega,by omega⟩ (aw ⟨by omega,by omega⟩ (aw ⟨by omega,by omega⟩ (aw ⟨by omega,by omega⟩ (aG (by rw[rD];omega) (hr _ (G.mono (by omega) (G.cat hI (G.two (m:=2) (G3 ha hx.2.1 (dJ _)) (G3 hd hx.2.1 hx.2.2.1) (Nat.le_refl 2)))))))))) fun _=>h1)) fun _=>by omega
 ·exact au (fun _=>by omega) fun _=>ag (G.mono (by omega) hI)
theorem R8(N:Nat)(hN:5000000≤N){c:ae}{b:ah}{m:Nat}(h2:200≤m)(hm:m≤1000)(hc:G m an c)(hb:G m aC b)(a:Int):Ok (fun r=>G m aC r.1) (fB N c b a):=by
 unfold fB fB.b
 refine cg (dH N hN (by omega) hb) (bx (fun _=>ag G.eZ) fun hB=>af (rE N (by omega) (by omega) hb _) fun _ _=>ok_eq (fun _=>ag G.eZ) fun _=> ?_)
 have hal:b.2.1.length≤24:=by
  unfold et at hB
  have h1:=(Bool.and_eq_true_iff.1 (Bool.and_eq_true_iff.1 hB).2).1
  unfold qL at h1
  exact OU (Bool.and_eq_true_iff.1 (Bool.and_eq_true_iff.1 h1).2).1
 refine bf (len:=b.2.1.length) (F:=fun n i (z:aj×bl)=>fB.l8 N n a c b (a6,(cn,(bc,(bc,(cQ,(cY,())))))) z.1 z.2 i) (s:=(_,_)) (fun i z=>L3 (2*m*i) z.1∧fO (4*i) z.2) ⟨G.nil,fO.nil⟩ (by omega) (fun n i z hi hI hr=> ?_) (fun n z hI=> ?_)
 all_goals unfold fB.l8 fB.xC
 ·obtain⟨h5,h6⟩:=hI
  have h7:=h5.1
  have h8:=h6.1
  have hmi:2*m*i≤2*m*24:=Nat.mul_le_mul_left _ (by omega)
  have hms:2*m*(i+1)=2*m*i+2*m:=Nat.mul_succ _ _
  have hx:G m cL (b.2.1.getD (i:Int).toNat aE):=G.at hb.2.1 _
  have hj: ∀p:bl,fO (4*i+2) p→Ok (fun r=>G m aC r.1) (fB.Ar N (fB.l8 N n) a c b (a6,(cn,(bc,(bc,(cQ,(cY,())))))) z.1 p (i:Int) (b.2.1.getD (i:Int).toNat aE)):=fun p hp=>by
   have Qk:=hp.1
   unfold fB.Ar fB.ta
   rw[aq (x:=(i:Int)+1) (by omega) (by omega),aa i]
   exact af (rF N (by omega) (by omega) hb _) fun g hg=>au (fun _=>af (aY N (by omega) hg) fun v hv=>af (oP N (by omega) (by omega) hv) fun v hv=>af (n6 N (by omega) _ _ _ _ (Bg.mono hv (by omega))) fun u hu=>aG (by have:=hu.1;omega) (af (OV N (by omega) (by omega) hb.2.2.2.1 hx.1 aS) fun s hs=>aG (by have:=hs.1;omega) (hr (_,_) ⟨G.mono (by omega) (G.cat h5 hs),fO.mono (fO.app hp hu) (by omega)⟩))) fun _=>af (OV N (by omega) (by omega) hb.2.2.2.1 hx.1 aS) fun s hs=>aG (by have:=hs.1;omega) (hr (_,_) ⟨G.mono (by omega) (G.cat h5 hs),fO.mono hp (by omega)⟩)
  rw[aq (x:=(i:Int)+1) (by omega) (by omega),aa i]
  exact au (fun _=>aw ⟨by omega,by omega⟩ (bI (fun _=>hr z ⟨G.mono (by omega) h5,fO.mono h6 (by omega)⟩) fun _=>ok_eq (fun _=>af (LP N hN (by omega) hc hb _) fun q hq=>af (aY N (by omega) hq) fun v hv=>af (n6 N (by omega) _ _ _ _ (Bg.mono hv (by omega))) fun u hu=>aG (by have:=hu.1;omega) (hj _ (fO.mono (fO.app h6 hu) (by omega)))) fun _=>hj _ (fO.mono h6 (by omega)))) fun _=>by omega
 ·obtain⟨h5,h6⟩:=hI
  have hmi:2*m*b.2.1.length≤2*m*24:=Nat.mul_le_mul_left _ (by omega)
  exact au (fun _=>by omega) fun _=>af (n0 N (by omega) h2 (by omega) hb (G.mono (by omega) h5) (fO.mono h6 (by omega))) fun r hr=>ag hr
abbrev GS(m:Nat)(s:aI):Prop:=G m bM s
abbrev SR(m:Nat)(r:aI×cy):Prop:=GS m r.1
theorem CK(N:Nat)(e:Int):Ok (fun _=>True) (dT N e):=by
 unfold dT;exact dk
theorem LR(N:Nat)(hN:5000000≤N){c:ae}{s:aI}{e:fm}{m:Nat}(h2:200≤m)(hm:m≤1000)(hc:G m an c)(hs:GS m s)(he:G 0 mm e):Ok (SR m) (nc N c s e):=by
 have hhl:=hs.2.2.2.1.2.2.2.2.1.1
 unfold nc nc.b
 generalize ((0:Int),((0:Int),_))=S0
 refine bf (len:=s.2.2.2.1.2.2.2.2.1.length) (F:=fun n i (z:aI×ay×Bool×Int)=>nc.l5 N n c z.1 e S0 aW z.2.1 z.2.2.1 z.2.2.2 i) (s:=(_,(_,(_,_)))) (fun i z=>GS m z.1∧z.1.2.2.2.1.2.2.2.2.1=s.2.2.2.1.2.2.2.2.1∧G i (.slice cL) z.2.1) ⟨hs,rfl,G.nil⟩ (by omega) (fun n i z hi hI hr=> ?_) (fun n z hI=> ?_)
 all_goals unfold nc.l5 nc.dn
 ·obtain⟨hz,hh,ho⟩:=hI
  have Da:=ho.1
  rw[hh,aq (x:=(i:Int)+1) (by omega) (by omega),aa i]
  have hx:G 0 cL (s.2.2.2.1.2.2.2.2.1.getD (i:Int).toNat aE):=G.at hs.2.2.2.1.2.2.2.2.1 _
  refine au (fun _=>aw ⟨by omega,by omega⟩ (ok_eq (fun _=>af (RI N hN h2 (by omega) hc hz.2.2.1 (G.mono (Nat.zero_le m) hx) he.2.2.1 he.2.2.2.2.2.2.1 he.2.2.2.2.2.2.2.1) fun r ⟨GV,C6⟩=>bI (fun _=>af (CK N _) fun _ _=>ag hz) fun _=> ?_) fun _=>au (fun _=>aG (by rw[List.length_singleton];omega) (hr (z.1,(z.2.1++[s.2.2.2.1.2.2.2.2.1.getD (i:Int).toNat aE],z.2.2)) ⟨hz,hh,G.cat ho (G.one hx (Nat.le_refl 1))⟩)) fun _=>hr z ⟨hz,hh,G.mono (by omega) ho⟩)) fun _=>by omega
  have zN:GS m (z.1.1,(z.1.2.1,(r.1,z.1.2.2.2))):=⟨hz.1,hz.2.1,GV,hz.2.2.2⟩
  have ai9:G 0 cL r.2.1:=C6
  exact au (fun _=>aG (by rw[List.length_singleton];omega) (hr ((z.1.1,(z.1.2.1,(r.1,z.1.2.2.2))),(z.2.1++[r.2.1],(true,r.2.1.2.2.2.1))) ⟨zN,hh,G.cat ho (G.one ai9 (Nat.le_refl 1))⟩)) fun _=>hr ((z.1.1,(z.1.2.1,(r.1,z.1.2.2.2))),(z.2.1,(true,r.2.1.2.2.2.1))) ⟨zN,hh,G.mono (by omega) ho⟩
 ·obtain⟨hz,hh,ho⟩:=hI
  rw[hh]
  exact au (fun _=>by omega) fun _=>bx (fun _=>af (CK N _) fun _ _=>ag hz) fun _=>ag ⟨hz.1,hz.2.1,hz.2.2.1,⟨hz.2.2.2.1.1,hz.2.2.2.1.2.1,hz.2.2.2.1.2.2.1,hz.2.2.2.1.2.2.2.1,G.mono hhl ho,hz.2.2.2.1.2.2.2.2.2⟩,hz.2.2.2.2⟩
end VM
end
section
namespace VM
open Go VM.F
theorem zp(N:Nat)(hN:4000000≤N){s:aI}{q:Int}(hs:aD s.1)(hq:aD q):Ok (fun r=>aD r.1) (LS N s q):=by
 unfold LS
 exact af (aY N hN hs) fun a ha=>af (aY N hN hq) fun b hb=>af (gA N hN (by omega) ha hb) fun x hx=>af (s9 N hx) fun v hv=>ag hv
theorem bT{α:Type}{P:α×cy→Prop}{N:Nat}{e:Int}{f:cy→Option (α×cy)}(h: ∀r,Ok P (f r)):Ok P ((dT N e).bind f):=af (CK N e) fun r _=>h r
theorem OW(N:Nat)(hN:5000000≤N){c:ae}{s:aI}{e:fm}{m:Nat}(h2:200≤m)(hm:m≤999)(hc:G 5 an c)(hs:GS m s)(he:G 0 mm e):Ok (SR (m+1)) (nf N c s e):=by
 have Km:G m an c:=G.mono (by omega) hc
 have I7:GS (m+1) s:=G.mono (by omega) hs
 obtain⟨s1,s2,s3,⟨k1,k2,k3,k4,k5,k6,k7,k8,k9,OX,R9⟩,s5⟩:=I7
 have hk:=hs.2.2.2.1
 have i2:aD 2:=aV
 have i3:aD 3:=aV
 have up: ∀{τ:Ty} {x:τ.den},G m τ x→G (m+1) τ x:=fun h=>G.mono (by omega) h
 have br: ∀r:cy,Ok (SR (m+1)) (some (s,r)):=fun r=>ag (up hs)
 unfold nf nf.b
 refine ok_eq (fun _=> ?_) fun _=>ok_eq (fun _=> ?_) fun _=>ok_eq (fun _=> ?_) fun _=>ok_eq (fun _=> ?_) fun _=>ok_eq (fun _=> ?_) fun _=>ok_eq (fun _=> ?_) fun _=>ok_eq (fun _=> ?_) fun _=>ok_eq (fun _=> ?_) fun _=>bT fun r=>br r
 ·exact af (RW N hN (by omega) Km hs.2.2.1 _ he.2.1 _) fun r hr=>bT fun _=>ag ⟨s1,s2,up hr,(up hs).2.2.2⟩
 ·exact af (R8 N hN h2 (by omega) Km hs.2.2.1 _) fun r hr=>bT fun _=>ag ⟨s1,s2,up hr,⟨k1,i2,aS,k4,k5,k6,k7,k8,k9,OX,R9⟩,s5⟩
 ·exact af (Ls N hN c hc.2.2.2.2.2.2.1 (by omega) hs.2.2.1 _) fun r hr=>ag ⟨s1,dJ _,s3,⟨k1,k2,k3,k4,G.mono (by omega) hr,k6,k7,k8,k9,OX,R9⟩,s5⟩
 ·exact af (LR N hN h2 (by omega) Km hs he) fun r hr=>ag (up hr)
 ·exact ok_eq (fun _=>bT fun r=>br r) fun _=>af (JX N hN h2 (by omega) Km hs.2.2.1 hs.2.1) fun l hl=>bI (fun _=>bT fun r=>br r) fun _=>af (zp N (by omega) hs.1 hc.2.2.2.2.1) fun t ht=>bx (fun _=>bT fun r=>br r) fun _=>af (RZ N hN c (by omega) hs.2.2.1) fun u hu=>ag ⟨s1,dJ _,s3,⟨k1,i3,ht,dJ _,G.nil,up hl,G.nil,up hu,k9,OX,R9⟩,s5⟩
 ·have hx:G 0 cL (s.2.1,(e.2.2.2.2.2.1,(e.2.1,(e.2.2.2.2.2.2.2.1,())))):=⟨hs.2.1,he.2.2.2.2.2.1,he.2.1,he.2.2.2.2.2.2.2.1,trivial⟩
  exact af (LF N hN (by omega) (by omega) Km hs.2.2.1 hk.2.2.2.2.2.1 hk.2.2.2.2.2.2.1 hx) fun r hr=>ag ⟨s1,dJ _,s3,⟨k1,k2,k3,k4,k5,k6,hr,k8,k9,OX,R9⟩,s5⟩
 ·refine af (OT N hN c h2 (by omega) hs.2.2.1 hk.2.2.2.2.2.1 hk.2.2.2.2.2.2.1) fun r ⟨GV,C6⟩=>bI (fun _=>bT fun r=>br r) fun _=>af (OP N (by omega) c h2 (by omega) hk.2.2.2.2.2.2.2.2.1 hk.2.2.2.2.2.2.2.1.1 C6 hk.2.2.2.2.2.2.1) fun d hd=> ?_
  generalize ((0:Int),((0:Int),_))=S0
  have GI:=C6.1
  refine bf (len:=r.2.1.length) (F:=fun n i q=>nf.l41 N n _ S0 aW r.2.1 q i) (fun _ _=>True) trivial (by omega) (fun n i q hi _ dr=> ?_) (fun n q _=> ?_)
  all_goals unfold nf.l41 nf.YM
  ·rw[aq (x:=(i:Int)+1) (by omega) (by omega),aa i]
   exact au (fun _=>aw ⟨by omega,by omega⟩ (ok_eq (fun _=>dr _ trivial) fun _=>dr _ trivial)) fun _=>by omega
  ·exact au (fun _=>by omega) fun _=>ag ⟨s1,s2,up GV,⟨k1,i2,aS,k4,k5,up C6,k7,k8,up hd,OX,R9⟩,s5⟩
 ·exact af (LN N hN h2 (by omega) Km hs.2.2.1 hk.2.2.2.2.2.2.2.2.1 hk.2.2.2.2.2.2.2.2.2.1 hk.1) fun r ⟨GV,C6⟩=>bI (fun _=>bT fun r=>br r) fun _=>af (R5 N hN h2 (by omega) hc GV) fun b hb=>bI (fun _=>bT fun r=>br r) fun _=>af (JW N (by omega) (by omega) hb.1 _ _) fun u hu=>ag ⟨s1,s2,⟨up hu,(up hb).2⟩,G.zero (m+1) kQ,up C6,trivial⟩
end VM
end
section
namespace VM
open Go VM.F
theorem OY(N:Nat)(s:aI)(k:Int):Ok (fun _=>True) (Sa N s k):=by
 unfold Sa
 repeat' first|exact dk|refine ok_eq (fun _=> ?_) (fun _=> ?_)
theorem rH(N:Nat)(hN:200000≤N){s:aI}{m:Nat}(hm:m≤50000)(hs:GS m s)(k:Int):Ok (fun _=>True) (CL N s k):=by
 unfold CL
 exact af (mj N hN hm hs.2.2.1.1 _) fun _ _=>dk
theorem OZ(N:Nat)(hN:200000≤N){s:aI}{m:Nat}(hm:m≤50000)(hs:GS m s)(k:Int):Ok (fun _=>True) (O0 N s k):=by
 unfold O0
 exact af (rC N hN hm hs.2.2.1.2.1 _) fun _ _=>dk
theorem Sb(N:Nat)(hN:4000000≤N){s:aI}{m:Nat}(h2:200≤m)(hm:m≤50000)(hs:GS m s)(a b c d:Int){q:Int}(hq:aD q):Ok (SR m) (LV N s a b c d q):=by
 unfold LV
 exact af (aY N hN hq) fun x hx=>af (n6 N hN _ _ _ _ (Bg.mono hx (by omega))) fun p hp=>af (n0 N hN h2 hm hs.2.2.1 G.nil (fO.mono hp (by omega))) fun r hr=>ag ⟨hs.1,hs.2.1,hr,hs.2.2.2⟩
theorem O1(N:Nat)(hN:5000000≤N){c:ae}{s:aI}{e:fm}{m:Nat}(h2:200≤m)(hm:m≤999)(hc:G 5 an c)(hs:GS m s)(he:G 0 mm e):Ok (SR (m+1)) (pO N c s e):=by
 obtain⟨s1,s2,s3,⟨k1,k2,k3,k4,k5,k6,k7,k8,k9,OX,R9⟩,s5⟩:=hs
 have hs:GS m s:=⟨s1,s2,s3,⟨k1,k2,k3,k4,k5,k6,k7,k8,k9,OX,R9⟩,s5⟩
 have up: ∀{x:aI},GS m x→ ∀r:cy,Ok (SR (m+1)) (some (x,r)):=fun h r=>ag (P:=SR (m+1)) (G.mono (Nat.le_succ m) h)
 have i1:aD 1:=aV
 have us: ∀{τ:Ty} {x:τ.den},G m τ x→G (m+1) τ x:=fun h=>G.mono (by omega) h
 unfold pO pO.b
 have hj: ∀(S0:aI) (z:cy),Ok (SR (m+1)) (pO.OM N c s e S0 z):=fun S0 z=>by
  unfold pO.OM pO.It
  exact af (OY N _ _) fun _ _=>bx (fun _=>bT fun r=>up hs r) fun _=>af (OW N hN h2 hm hc hs he) fun r hr=>ag hr
 have mem: ∀{x:ax},G m (.slice gB) x→G m aC ((x,s.2.2.1.2):ah):=fun h=>⟨h,s3.2⟩
 have hd: ∀z:ax×Int,G m (.slice gB) z.1→Ok (SR (m+1)) (cond (az z.2 0) (cond (az e.1 11) ((LA N c (z.1,s.2.2.1.2) e.2.1).bind fun r2=>cond (az s.2.2.2.1.2.1 3) ((ly N s.2.2.2.1.2.2.2.2.2.2.1 e.2.1).bind fun r3=>(dT N z.2).bind fun r4=>some ((s.1,(s.2.1,(r2.1,((s.2.2.2.1.1,(s.2.2.2.1.2.1,(s.2.2.2.1.2.2.1,(s.2.2.2.1.2.2.2.1,(s.2.2.2.1.2.2.2.2.1,(s.2.2.2.1.2.2.2.2.2.1,(r3,s.2.2.2.1.2.2.2.2.2.2.2))))))),s.2.2.2.2)))),r4)) ((dT N z.2).bind fun r5=>some ((s.1,(s.2.1,(r2.1,s.2.2.2))),r5))) ((dT N z.2).bind fun r6=>some ((s.1,(s.2.1,((z.1,s.2.2.1.2),s.2.2.2))),r6))) ((dT N z.2).bind fun r7=>some ((s.1,(s.2.1,((z.1,s.2.2.1.2),s.2.2.2))),r7))):=fun z hz=>
  ok_eq (fun _=>ok_eq (fun _=>af (Fe N hN c (by omega) (mem hz) _) fun b hb=>ok_eq (fun _=>af (Ff N (by omega) (by omega) k7 _) fun l hl=>bT fun r=>ag ⟨s1,s2,us hb,⟨k1,k2,k3,k4,us k5,us k6,us hl,us k8,us k9,us OX,trivial⟩,us s5⟩) fun _=>bT fun r=>ag ⟨s1,s2,us hb,(us hs).2.2.2⟩) fun _=>bT fun r=>ag ⟨s1,s2,us (mem hz),(us hs).2.2.2⟩) fun _=>bT fun r=>ag ⟨s1,s2,us (mem hz),(us hs).2.2.2⟩
 have Kc:=fun k:Int=>JW N (by omega) (m:=m) (by omega) s3.1 e.2.1 k
 refine ok_eq (fun _=>af (Kc _) fun z hz=>hd z hz) fun _=>ok_eq (fun _=>af (Kc _) fun z hz=>hd z hz) fun _=>ok_eq (fun _=> ?_) fun _=>ok_eq (fun _=> ?_) fun _=>hj _ _
 ·exact af (rH N (by omega) (by omega) hs _) fun _ _=>ok_eq (fun _=>bT fun r=>up hs r) fun _=>bI (fun _=>bT fun r=>up hs r) fun _=>af (Kc _) fun z hz=>bI (fun _=>bT fun r=>ag ⟨s1,s2,us (mem hz),(us hs).2.2.2⟩) fun _=>af (zp N (by omega) s1 hc.2.2.2.1) fun t ht=>bx (fun _=>bT fun r=>ag ⟨s1,s2,us (mem hz),(us hs).2.2.2⟩) fun _=>ag ⟨s1,s2,us (mem hz),⟨he.2.1,i1,ht,aS,G.nil,G.nil,G.nil,G.nil,G.nil,G.nil,trivial⟩,us s5⟩
 ·exact af (rH N (by omega) (by omega) hs _) fun _ _=>ok_eq (fun _=>bT fun r=>up hs r) fun _=>af (rH N (by omega) (by omega) hs _) fun _ _=>bI (fun _=>bT fun r=>up hs r) fun _=>hj _ _
theorem Sc(N:Nat)(hN:5000000≤N){c:ae}{s:aI}{e:fm}{m:Nat}(h2:200≤m)(hm:m≤999)(hc:G 5 an c)(hs:GS m s)(he:G 0 mm e):Ok (SR (m+1)) (Sd N c s e):=by
 have Km:G m an c:=G.mono (by omega) hc
 obtain⟨s1,s2,s3,⟨k1,k2,k3,k4,k5,k6,k7,k8,k9,OX,R9⟩,s5⟩:=hs
 have hs:GS m s:=⟨s1,s2,s3,⟨k1,k2,k3,k4,k5,k6,k7,k8,k9,OX,R9⟩,s5⟩
 have us: ∀{τ:Ty} {x:τ.den},G m τ x→G (m+1) τ x:=fun h=>G.mono (by omega) h
 have I7:=us hs
 have up: ∀{x:aI},GS m x→ ∀r:cy,Ok (SR (m+1)) (some (x,r)):=fun h r=>ag (P:=SR (m+1)) (G.mono (Nat.le_succ m) h)
 have st:=fun k:Int=>rH N (by omega) (m:=m) (by omega) hs k
 have hp:=fun a b c d=>Sb N (by omega) h2 (by omega) hs a b c d he.2.2.2.2.2.2.1
 have q64:=he.2.2.2.2.2.2.1
 unfold Sd
 refine ok_eq (fun _=> ?_) fun _=>ok_eq (fun _=> ?_) fun _=>ok_eq (fun _=> ?_) fun _=>ok_eq (fun _=> ?_) fun _=>ok_eq (fun _=> ?_) fun _=>ok_eq (fun _=> ?_) fun _=>ok_eq (fun _=> ?_) fun _=>ok_eq (fun _=> ?_) fun _=>ok_eq (fun _=> ?_) fun _=>ok_eq (fun _=> ?_) fun _=>ok_eq (fun _=> ?_) fun _=>af (O1 N hN h2 hm hc hs he) fun r hr=>ag hr
 ·exact af (Oz N (by omega) (by omega) s3.1 he.2.1) fun r hr=>bT fun _=>ag ⟨s1,s2,⟨hr,I7.2.2.1.2⟩,I7.2.2.2⟩
 ·have hx:G 0 cL (e.2.2.1,(e.2.1,(e.2.2.2.2.1,((0:Int),())))):=⟨he.2.2.1,he.2.1,he.2.2.2.2.1,aS,trivial⟩
  exact af (RO N (by omega) (by omega) s3.1 s3.2.1 hx) fun r hr=>bT fun _=>ag ⟨s1,s2,⟨I7.2.2.1.1,hr,I7.2.2.1.2.2⟩,I7.2.2.2⟩
 ·exact af (OZ N (by omega) (by omega) hs _) fun _ _=>bx (fun _=>bT fun r=>up hs r) fun _=>af (hp _ _ _ _) fun r hr=>ag (us hr)
 ·exact af (Fh N hN h2 (by omega) Km s3 _ q64) fun r hr=>bT fun z=>ag ⟨s1,s2,us hr,(us hs).2.2.2⟩
 ·exact af (st _) fun _ _=>ok_eq (fun _=>bT fun r=>up hs r) fun _=>af (st _) fun _ _=>bI (fun _=>bT fun r=>up hs r) fun _=>af (hp _ _ _ _) fun r hr=>ag (us hr)
 ·exact af (st _) fun _ _=>ok_eq (fun _=>bT fun r=>up hs r) fun _=>af (mW N (by omega) (by omega) s3.2.2.1 _ _) fun g hg=>af (aY N (by omega) hg) fun x hx=>af (oP N (by omega) (by omega) hx) fun x hx=>af (aY N (by omega) q64) fun y hy=>af (oh N (by omega) (by omega) (by omega) hy hx) fun _ _=>au (fun _=>bT fun r=>up hs r) fun _=>af (hp _ _ _ _) fun r hr=>ag (us hr)
 ·exact af (OA N (by omega) (by omega) s3.2.1 q64) fun r hr=>bT fun z=>ag ⟨s1,s2,⟨us s3.1,us hr,(us s3).2.2⟩,(us hs).2.2.2⟩
 ·have hx:G 0 jv (s.2.1,(e.2.2.1,(e.2.2.2.1,(e.2.2.2.2.1,(e.2.2.2.2.2.2.1,(e.2.2.2.2.2.2.2.1,())))))):=⟨s2,he.2.2.1,he.2.2.2.1,he.2.2.2.2.1,q64,he.2.2.2.2.2.2.2.1,trivial⟩
  exact af (OG N hN h2 (by omega) Km s3 hx) fun r hr=>ag ⟨s1,dJ _,hr,I7.2.2.2⟩
 ·exact af (OZ N (by omega) (by omega) hs _) fun _ _=>bx (fun _=>bT fun r=>up hs r) fun _=>af (LB N (by omega) (by omega) s3.2.2.2.2.2.1 _ _) fun r hr=>bT fun z=>ag ⟨s1,s2,⟨us s3.1,us s3.2.1,us s3.2.2.1,us s3.2.2.2.1,us s3.2.2.2.2.1,us hr,trivial⟩,(us hs).2.2.2⟩
 ·exact af (Fg N hN c h2 (by omega) s3 _ he.2.2.2.2.2.2.2.1) fun r ⟨GV,C6⟩=>ok_eq (fun _=>bI (fun _=>af (OI N (by omega) h2 (by omega) OX C6) fun g hg=>bT fun z=>ag ⟨s1,s2,us GV,⟨k1,k2,k3,k4,us k5,us k6,us k7,us k8,us k9,us hg,trivial⟩,us s5⟩) fun _=>bT fun z=>ag ⟨s1,s2,us GV,(us hs).2.2.2⟩) fun _=>bT fun z=>ag ⟨s1,s2,us GV,(us hs).2.2.2⟩
 ·exact af (zp N (by omega) s1 q64) fun t ht=>bx (fun _=>bT fun r=>up hs r) fun _=>ag ⟨ht,(us hs).2⟩
theorem Se(N:Nat)(hN:5000000≤N){c:ae}{s:aI}{e:fm}{m:Nat}(h2:200≤m)(hm:m≤999)(hc:G 5 an c)(hs:GS m s)(he:G 0 mm e):Ok (SR (m+1)) (Sf N c s e):=by
 have br: ∀r:cy,Ok (SR (m+1)) (some (s,r)):=fun r=>ag (P:=SR (m+1)) (G.mono (Nat.le_succ m) hs)
 unfold Sf
 exact cg (mK N (by omega) c) (bx (fun _=>br _) fun _=>af (Ly N (by omega) e) fun _ _=>bx (fun _=>br _) fun _=>af (Sc N hN h2 hm hc hs he) fun r hr=>bI (fun _=>br _) fun _=>ag hr)
theorem YN(N:Nat)(hN:5000000≤N){c:ae}{l:fE}{m:Nat}(hm:m≤700)(hc:G 5 an c)(hl:Mi m l):Ok (fun r=>GS 900 r.1) (zq N c l):=by
 have tH:=hl.1
 unfold zq zq.b YO
 have hb:Ok (fun r:aI×Int=>GS 5 r.1) ((gi N c).bind fun r1=>cond (!az r1.2 0) (some (Ty.zero bM,r1.2)) (some (((0:Int),((1:Int),(r1.1,(Ty.zero kQ,(Ty.zero dS,()))))),(0:Int)))):=af (Iq N (by omega) hc) fun b hb=>bI (fun _=>ag (G.zero 5 bM)) fun _=>ag ⟨aS,(show aD 1 from aV),hb,G.zero 5 kQ,G.zero 5 dS,trivial⟩
 refine af hb fun b hb=>bI (fun _=>ag (G.zero 900 bM)) fun _=>bf (len:=l.length) (F:=fun n i (z:aI×aj)=>zq.l6 N n l c (Ty.zero bM) z.1 z.2 i) (s:=(_,_)) (fun i z=>GS (200+i) z.1∧z.2.length≤i) ⟨G.mono (by omega) hb,Nat.zero_le _⟩ (by omega) (fun n i z hi hI hr=> ?_) (fun n z hI=> ?_)
 all_goals unfold zq.l6 zq.mg
 ·obtain⟨h1,h2⟩:=hI
  rw[aq (x:=(i:Int)+1) (by omega) (by omega),aa i]
  have hx:G 0 mm (l.getD (i:Int).toNat zz8):=G.at hl _
  exact au (fun _=>aw ⟨by omega,by omega⟩ (af (Se N hN (by omega) (by omega) hc h1 hx) fun r PH=>aG (by rw[List.length_singleton];omega) (hr (r.1,z.2++[r.2]) ⟨PH,by dsimp only;rw[List.length_append,List.length_singleton];omega⟩))) fun _=>by omega
 ·exact au (fun _=>by omega) fun _=>ag (G.mono (by omega) hI.1)
theorem Iy(N:Nat)(hN:5000000≤N){d:aK}{c:ae}(h:Dk 1000 d)(hc:Cf c){Fb:Int}(hm:0≤Fb∧Fb≤100):Ok (fun r=>GS 900 r.1∧Dk 100000 r.2) (F28 N d c Fb):=by
 unfold F28
 refine af (Lv N (by omega) h hc hm (by omega)) fun l ⟨hl,hd⟩=>af (gh N (by decide) hd) fun v ⟨hv,hd⟩=> ?_
 have tH:=hl.1
 have e1: ∀(k:Int) {x:Int},aD k→aD x→G 0 mm (k,(x,eg)):=fun k x hk hx=>xi hk hx aS aS aS aS aS aS
 have i11:aD 11:=aV
 have i13:aD 13:=aV
 have i10:aD 10:=aV
 have i15:aD 15:=aV
 have i2:aD 2:=aV
 dsimp only
 have h4:=G.cat hl (G.two (m:=2) (e1 11 i11 (dJ (1+v.1))) (e1 13 i13 (dJ (1+v.1))) (Nat.le_refl 2))
 have h4l:=h4.1
 refine aG (by rw[rD];omega) (af (Fc N (by omega) hd hc (by omega)) fun n1 ⟨hn1,hd⟩=> ?_)
 have h5:=G.cat h4 hn1
 have h5l:=h5.1
 have aja:=hn1.1
 refine aG (by omega) (aG (by rw[rD];omega) (af (Fc N (by omega) hd hc (by omega)) fun n2 ⟨hn2,hd⟩=> ?_))
 have h6:=G.cat h5 (G.two (m:=2) (xi i10 aS aS aS aS aS i2 aS) (e1 15 i15 aS) (Nat.le_refl 2))
 have h6l:=h6.1
 have ajb:=hn2.1
 exact aG (by simp only[List.length_append,List.length_cons,List.length_nil]at h4l h5l h6l aja ajb ⊢;omega) (af (YN N hN (by omega) hc.g (G.cat h6 hn2)) fun r hr=>ag ⟨hr,Dk.mono hd (by omega)⟩)
end VM
end
