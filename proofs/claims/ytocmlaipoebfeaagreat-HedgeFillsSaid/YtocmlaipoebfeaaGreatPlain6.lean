/- A part of the proof of HedgeFills of layer 22: what the functions compute, in plain words. -/
import Derived.Test.YtocmlaipoebfeaaGreatPlain5
set_option linter.all false
section
namespace VM
open Go VM.F
abbrev L3(m:Nat)(l:aj):Prop:=G m (.slice fA) l
def gw(m:Nat)(p:br):Prop:=p.length≤m∧ ∀y∈p,Bg 8 y.2.2.1
theorem gw.at{m:Nat}{p:br}(h:gw m p)(i:Nat):Bg 8 (p.getD i ((0:Int),((0:Int),((false,lz),())))).2.2.1:=by
 by_cases hk:i<p.length
 ·rw[List.getD_eq_getElem?_getD,List.getElem?_eq_getElem hk];exact h.2 _ (List.getElem_mem hk)
 ·rw[List.getD_eq_getElem?_getD,List.getElem?_eq_none (by omega)];exact Bg.mono Bg.zero (by decide)
theorem gw.nil{m:Nat}:gw m []:=⟨Nat.zero_le _,fun x hx=>nomatch hx⟩
theorem gw.app{m n:Nat}{p q:br}(h:gw m p)(h':gw n q):gw (m+n) (p++q):=
 ⟨by have:=h.1;have:=h'.1;rw[List.length_append];omega,fun y hy=>(List.mem_append.1 hy).elim (h.2 y) (h'.2 y)⟩
theorem gw.mono{m n:Nat}{p:br}(h:gw m p)(hm:m≤n):gw n p:=⟨Nat.le_trans h.1 hm,h.2⟩
theorem yd(N:Nat){k:Nat}{u:aw}(hu:Bg k u):Ok (fun r=>aC r.1) (RL N u):=by
 unfold RL
 refine af (uy N hu) fun r h=>bH (fun _=>ah (by unfold aC;decide)) fun _=>ok_eq (fun _=>ah (by unfold aC;decide)) fun _=>ah h
theorem gd{x:Int}(h0: -1000000≤x)(h1:x≤1000000):aC x:=by unfold aC;omega
theorem G3{m:Nat}{a b c:Int}(ha:aC a)(hb:aC b)(hc:aC c):G m fA (a,(b,(c,()))):=⟨ha,hb,hc,trivial⟩
theorem aV:aC 0:=by unfold aC;decide
theorem OK(N:Nat)(hN:4000000≤N){x k n:Int}{p:br}(hx:aC x)(hp:gw 50000 p):Ok (fun r=>aC r.1) (pt N x k n p):=by
 have hl:=hp.1
 refine bq (len:=p.length) (F:=fun n' i (s:aw×Bool)=>pt.l3 N n' x k n p s.1 s.2 i) (s:=(_,_)) (fun i s=>Bg (8+i) s.1) (Bg.mono Bg.zero (by omega)) (by omega) (fun n' i s hi hI hr=> ?_) (fun n' s hI=> ?_)
 all_goals unfold pt.l3 pt.kq
 ·rw[al (x:=(i:Int)+1) (by omega) (by omega),ae i]
  have h1:=hr (s.1,s.2) (Bg.mono hI (by omega))
  repeat' first|exact h1|refine ax ⟨by omega,by omega⟩ ?_|refine av (fun _=> ?_) (fun _=> ?_)|refine ok_eq (fun _=> ?_) (fun _=> ?_)|(exfalso;omega)|exact af (ig N hN (by omega) hI (Bg.mono (hp.at _) (by omega))) fun r h=>hr (r,true) h
 ·refine av (fun _=>by omega) fun _=>bH (fun _=>ah hx) fun _=>af (a7 N hN hx) fun r h=>af (ig N hN (by omega) hI (Bg.mono h (by omega))) fun r h=>af (uy N h) fun r h=>ah h
theorem U7(N:Nat)(hN:4000000≤N){l:aj}{p:br}{m:Nat}(hm:m≤50000)(hl:L3 m l)(hp:gw 50000 p):Ok (fun r=>L3 200 r.1) (di N l p):=by
 have Tb:=hl.1
 refine iU (len:=8) (F:=fun n k (s:aj×Int)=>di.l4 N n l p s.1 s.2 k) (fun i s=>L3 (25*i) s.1∧0≤s.2) (fun n i s hi hI hr=> ?_) (fun n s hI=> ?_) 8 N 1 (_,_) (by omega) (by omega) (by omega) ⟨G.nil,Int.le_refl 0⟩
 all_goals unfold di.l4 di.c5
 ·refine dv (fun _=> ?_) (fun _=>by omega)
  refine bq (len:=25) (F:=fun n' j (s:aj×Int)=>di.l7 N (di.l4 N n) n' l p s.1 s.2 (i:Int) j) (s:=s) (fun j s=>L3 (25*i+j) s.1∧0≤s.2) hI (by omega) (fun n' j s hj hI dD=> ?_) (fun n' s hI=> ?_)
  all_goals unfold di.l7 di.oT
  ·have ir: ∀(k x:Int),0≤k→aC x→Ok (fun r=>L3 200 r.1) (di.JM N (di.l4 N n) (di.l7 N (di.l4 N n) n') l p s.1 k (i:Int) (j:Int) x):=fun k x hk hx=>by
    unfold di.JM di.yD
    rw[al (x:=(j:Int)+1) (by omega) (by omega),ae j]
    have hs:=hI.1.1
    refine af (OK N hN hx hp) fun r h=>bH (fun _=>ah G.nil) fun _=>bE (fun _=>aF (by rw[List.length_singleton];omega) (dD (_,k) ⟨G.app hI.1 (G3 (gd (by omega) (by omega)) (gd (by omega) (by omega)) h),hk⟩)) fun _=>dD (s.1,k) ⟨G.mono (by omega) hI.1,hk⟩
   have h0:=ir s.2 0 hI.2 aV
   have Mh:=hI.2
   repeat' first|exact h0|refine ax ⟨by omega,by omega⟩ ?_|refine av (fun _=> ?_) (fun _=> ?_)|refine dv (fun _=> ?_) (fun _=> ?_)|refine ok_eq (fun _=> ?_) (fun _=> ?_)|(exfalso;omega)|exact ir _ _ (by rw[al (x:=s.2+1) (by omega) (by omega)];omega) (G.at hl _).2.2.1
  ·rw[al (x:=(i:Int)+1) (by omega) (by omega),ae i]
   exact dv (fun _=>by omega) fun _=>hr s ⟨G.mono (by omega) hI.1,hI.2⟩
 ·exact dv (fun _=>by omega) fun _=>ah (G.mono (by decide) hI.1)
theorem K1(N:Nat)(hN:4000000≤N){l t:aj}{m:Nat}(hm:m≤50000)(hl:L3 m l)(ht:L3 50000 t):Ok (fun r=>L3 200 r.1) (cg N l t):=by
 have Tb:=hl.1
 have htl:=ht.1
 refine bq (len:=25) (F:=fun n k (s:aj×Int)=>cg.l4 N n l t s.1 s.2 k) (s:=(_,_)) (fun i s=>L3 (6*i) s.1∧0≤s.2) ⟨G.nil,Int.le_refl 0⟩ (by omega) (fun n i s hi hI hr=> ?_) (fun n s hI=> ?_)
 all_goals unfold cg.l4 cg.c5
 ·refine dv (fun _=> ?_) (fun _=>by omega)
  refine bq (len:=6) (F:=fun n' j (s:aj×Int)=>cg.l7 N (cg.l4 N n) n' l t s.1 s.2 (i:Int) j) (s:=s) (fun j s=>L3 (6*i+j) s.1∧0≤s.2) hI (by omega) (fun n' j s hj hI dD=> ?_) (fun n' s hI=> ?_)
  all_goals unfold cg.l7 cg.oT
  ·have ir: ∀(k x:Int),0≤k→aC x→Ok (fun r=>L3 200 r.1) (cg.JM N (cg.l4 N n) (cg.l7 N (cg.l4 N n) n') l t s.1 k (i:Int) (j:Int) x false):=fun k x hk hx=>by
    unfold cg.JM cg.yD
    have hs:=hI.1.1
    have uX: ∀y:Int,aC y→Ok (fun r=>L3 200 r.1) (cond (!ay y 0) (cond (small (s.1.length+[(((i:Int),((j:Int),(y,()))):bW)].length)) (cg.l7 N (cg.l4 N n) n' l t (s.1++[((i:Int),((j:Int),(y,())))]) k (i:Int) (W .i64 ((j:Int)+1))) none) (cg.l7 N (cg.l4 N n) n' l t s.1 k (i:Int) (W .i64 ((j:Int)+1)))):=fun y hy=>by
     rw[al (x:=(j:Int)+1) (by omega) (by omega),ae j]
     exact bE (fun _=>aF (by rw[List.length_singleton];omega) (dD (_,k) ⟨G.app hI.1 (G3 (gd (by omega) (by omega)) (gd (by omega) (by omega)) hy),hk⟩)) fun _=>dD (s.1,k) ⟨G.mono (by omega) hI.1,hk⟩
    refine bq (len:=t.length) (F:=fun Dx u (z:aw×Bool)=>cg.OL N (cg.l4 N n) (cg.l7 N (cg.l4 N n) n') Dx l t s.1 k (i:Int) (j:Int) x z.2 z.1 u) (s:=(_,_)) (fun u z=>Bg (3+u) z.1) (Bg.mono Bg.zero (by omega)) (by omega) (fun Dx u z hu hz RM=> ?_) (fun Dx z hz=> ?_)
    all_goals unfold cg.OL cg.K2
    ·rw[al (x:=(u:Int)+1) (by omega) (by omega),ae u]
     have h1:=RM (z.1,z.2) (Bg.mono hz (by omega))
     repeat' first|exact h1|refine ax ⟨by omega,by omega⟩ ?_|refine av (fun _=> ?_) (fun _=> ?_)|refine ok_eq (fun _=> ?_) (fun _=> ?_)|(exfalso;omega)|exact af (a7 N hN (G.at ht _).2.2.1) fun r h=>af (ig N hN (by omega) hz (Bg.mono h (by omega))) fun r h=>RM (r,true) h
    ·exact av (fun _=>by omega) fun _=>qT (fun _=>af (a7 N hN hx) fun r h=>af (ig N hN (by omega) hz (Bg.mono h (by omega))) fun r h=>af (yd N h) fun r h=>bH (fun _=>ah G.nil) fun _=>uX _ h) fun _=>uX _ hx
   have h0:=ir s.2 0 hI.2 aV
   have Mh:=hI.2
   repeat' first|exact h0|refine ax ⟨by omega,by omega⟩ ?_|refine av (fun _=> ?_) (fun _=> ?_)|refine dv (fun _=> ?_) (fun _=> ?_)|refine ok_eq (fun _=> ?_) (fun _=> ?_)|(exfalso;omega)|exact ir _ _ (by rw[al (x:=s.2+1) (by omega) (by omega)];omega) (G.at hl _).2.2.1
  ·rw[al (x:=(i:Int)+1) (by omega) (by omega),ae i]
   exact av (fun _=>by omega) fun _=>hr s ⟨G.mono (by omega) hI.1,hI.2⟩
 ·exact dv (fun _=>by omega) fun _=>ah (G.mono (by decide) hI.1)
theorem G.fp{m:Nat}:G m az (bF,(cc,(aY,(aY,(cv,(cF,())))))):=G.zero m az
theorem o9(N:Nat)(hN:4000000≤N){b:ag}{s:aj}{p:br}{m:Nat}(h2:200≤m)(hm:m≤50000)(hb:G m az b)(hs:L3 50000 s)(hp:gw 50000 p):Ok (fun r=>G m az r.1) (A4 N b s p):=by
 unfold A4
 exact af (K1 N hN hm hb.2.2.2.1 hs) fun r h=>bH (fun _=>ah G.fp) fun _=>af (U7 N hN hm hb.2.2.1 hp) fun r' h'=>bH (fun _=>ah G.fp) fun _=>ah ⟨hb.1,hb.2.1,G.mono h2 h',G.mono h2 h,hb.2.2.2.2⟩
end VM
end
section
namespace VM
open Go VM.F
theorem cf{α β:Type}{P:β→Prop}{o:Option α}{r:α}{f:α→Option β}(h:o=some r)(hf:Ok P (f r)):Ok P (o.bind f):=by rw[h];exact hf
theorem G.wf{m:Nat}(hm:m≤50000){b:ag}(h:G m az b):sY b:=by
 obtain⟨h1,h2,h3,h4,h5,h6,_⟩:=h
 exact⟨⟨Nat.le_trans h1.1 (by omega),Nat.le_trans h2.1 (by omega),Nat.le_trans h3.1 (by omega),Nat.le_trans h4.1 (by omega),Nat.le_trans h5.1 (by omega),Nat.le_trans h6.1 (by omega),fun x hx=>(h3.2 x hx).2.2.1,fun x hx=>(h4.2 x hx).2.2.1⟩,Nat.le_trans h3.1 (by omega),Nat.le_trans h4.1 (by omega)⟩
theorem dP(N:Nat)(hN:5000000≤N){c:aa}{b:ag}{m:Nat}(hm:m≤50000)(h:G m az b):bO N c b=some (bV c b):=GZ N hN (G.wf hm h).w
theorem U8{x:Int}(h:bw x):aC x:=by unfold bw at h;unfold aC;omega
theorem Ch(N:Nat)(hN:4000000≤N)(t:fZ)(p:Int):Ok (fun r=>gw 2 r.1) (U9 N t p):=by
 unfold U9
 refine cf (C1 N t) (bH (fun _=>ah gw.nil) fun ht=>cf (js N p) (bH (fun _=>ah gw.nil) fun _=>af (a7 N hN (dY _)) fun a ha=>af (a7 N hN ?_) fun q hq=>af (kb N hN (by omega) (by omega) ha hq) fun x hx=>af (zl N hx) fun _ _=>ok_eq (fun _=>ah gw.nil) fun _=> ?_))
 ·have:=of_decide_eq_true ht
  unfold c6 fj at this
  exact Int.le_trans (by decide) this.2.2.2.2.1.1 |> fun h=>⟨h,Int.lt_of_le_of_lt this.2.2.2.2.1.2 (by decide)⟩
 ·unfold K3
  have hr: ∀a:Int,Ok (fun _=>True) (cond (ay a 0) (some ((2:Int),(0:Int))) (some ((5:Int),a))):=fun a=>ok_eq (fun _=>ah trivial) fun _=>ah trivial
  refine af (hr _) fun _ _=>af (hr _) fun _ _=>af (p4 N hN (by omega) hx) fun y hy=>ah ⟨Nat.le_refl 2,fun z hz=> ?_⟩
  rcases List.mem_cons.1 hz with rfl|hz
  ·exact Bg.mono hx (by omega)
  ·rw[List.mem_singleton.1 hz];exact Bg.mono hy (by omega)
theorem HM(N:Nat)(hN:200000≤N){b:ag}{m:Nat}(hm:m≤50000)(h:G m az b)(id:Int):Ok (fun _=>True) (Es N b id):=lW (vz N b (G.wf hm h).w.a hN id) trivial
theorem Dy(N:Nat)(hN:5000000≤N)(c:aa){b:ag}{l:aX}{m:Nat}(h2:200≤m)(hm:m≤50000)(hb:G m az b):Ok (fun r=>G m az r.1) (fM N c b l):=by
 unfold fM fM.b
 refine cf (dP N hN hm hb) (bH (fun _=>ah G.fp) fun hB=>av (fun _=>ah G.fp) fun hl=> ?_)
 obtain⟨hp,_⟩:=cP hB
 refine bq (len:=l.length) (F:=fun n i (_:Unit)=>fM.l4 N n l c b (bF,(cc,(aY,(aY,(cv,(cF,())))))) i) (s:=()) (fun i _=> ∀j,j<i→c6 (l.getD j eC)) (fun j hj=>by omega) (by omega) (fun n i _ hi hI hr=> ?_) (fun n _ hI=> ?_)
 all_goals unfold fM.l4 fM.c5
 ·rw[al (x:=(i:Int)+1) (by omega) (by omega),ae i]
  refine av (fun _=>ax ⟨by omega,by omega⟩ (cf (C1 N _) (bH (fun _=>ah G.fp) fun ht=>hr () fun j hj=> ?_))) fun _=>by omega
  by_cases e:j=i
  ·rw[e];exact of_decide_eq_true ht
  ·exact hI j (by omega)
 ·refine av (fun _=>by omega) fun _=> ?_
  refine bq (len:=l.length) (F:=fun n i (s:aj×br)=>fM.Dz N n l c b (bF,(cc,(aY,(aY,(cv,(cF,())))))) s.1 s.2 i) (s:=(_,_)) (fun i s=>L3 (2*i) s.1∧gw (2*i) s.2) ⟨G.nil,gw.nil⟩ (by omega) (fun n i s hi hJ hr=> ?_) (fun n s hJ=> ?_)
  all_goals unfold fM.Dz fM.A5
  ·have ht:=hI i hi
   unfold c6 fj at ht
   have LY:=hJ.1.1
   have Mh:=hJ.2.1
   have g64: ∀x:Int,0≤x∧x≤1000000→aC x:=fun x h=>gd (by omega) (by omega)
   dsimp only
   rw[al (x:=(i:Int)+1) (by omega) (by omega),ae i,Int.toNat_natCast]
   refine av (fun _=>ax ⟨by omega,by omega⟩ (af (HM N (by omega) hm hb _) fun _ _=>bH (fun _=>ah G.fp) fun _=>af (HM N (by omega) hm hb _) fun _ _=>bH (fun _=>ah G.fp) fun _=>dv (fun _=>ah G.fp) fun dT=>aF ?_ (ax ⟨ht.2.2.2.1.1,by omega⟩ (af (Ch N (by omega) _ _) fun r h=>aF ?_ (hr (_,_) ⟨?_,gw.mono (gw.app hJ.2 h) (by omega)⟩))))) fun _=>by omega
   ·rw[List.length_cons,List.length_singleton];omega
   ·have:=h.1;omega
   ·have hq:aC (l.getD i eC).2.2.2.1:=⟨Int.le_trans (by decide) ht.2.2.2.2.1.1,Int.lt_of_le_of_lt ht.2.2.2.2.1.2 (by decide)⟩
    have kk:aC (l.getD i eC).2.2.1:=g64 _ ⟨ht.2.2.2.1.1,Int.le_trans (Int.le_of_lt ht.2.2.2.1.2) (by decide)⟩
    have h1:=G.app (G.app hJ.1 (G3 (g64 _ ⟨ht.1.1,Int.le_trans ht.1.2 (by decide)⟩) kk hq)) (G3 (g64 _ ⟨ht.2.1.1,Int.le_trans ht.2.1.2 (by decide)⟩) kk (dY (0-(l.getD i eC).2.2.2.1)))
    rw[List.append_assoc]at h1
    exact G.mono (by omega) h1
  ·exact av (fun _=>by omega) fun _=>af (o9 N (by omega) h2 hm hb (G.mono (by omega) hJ.1) (gw.mono hJ.2 (by omega))) fun r h=>ah h
end VM
end
section
namespace VM
open Go VM.F
def Ci(k:Nat)(l:ku):Prop:= ∀x∈l,Bg k x
theorem Ci.mono{j k:Nat}{l:ku}(h:Ci j l)(hk:j≤k):Ci k l:=fun x hx=>Bg.mono (h x hx) hk
theorem Ci.at{k:Nat}{l:ku}(h:Ci k l)(h1:1≤k)(i:Nat):Bg k (l.getD i (false,lz)):=by
 by_cases hk:i<l.length
 ·rw[List.getD_eq_getElem?_getD,List.getElem?_eq_getElem hk];exact h _ (List.getElem_mem hk)
 ·rw[List.getD_eq_getElem?_getD,List.getElem?_eq_none (by omega)];exact Bg.mono Bg.zero h1
theorem Ci.set{k:Nat}{l:ku}{x:aw}(h:Ci k l)(hx:Bg k x)(i:Nat):Ci k (l.set i x):=fun y hy=>by
 rcases List.mem_or_eq_of_mem_set hy with hy|rfl
 ·exact h y hy
 ·exact hx
theorem Ci.rep{k n:Nat}(h:1≤k):Ci k (List.replicate n (false,lz)):=fun x hx=>by
 rw[(List.mem_replicate.1 hx).2];exact Bg.mono Bg.zero h
theorem Va(N:Nat)(hN:5000000≤N)(c:aa){b:ag}{m:Nat}(hm:m≤50000)(hb:G m az b):Ok (fun r=>(r.2=0→bV c b=true∧r.1.length=4)∧Ci 20 r.1) (j2 N c b):=by
 unfold j2 j2.b
 have w:=(G.wf hm hb).w
 refine cf (dP N hN hm hb) (bH (fun _=>ah ⟨fun h=>absurd h (by decide),fun x hx=>nomatch hx⟩) fun hB=>U6 ⟨by omega,by omega,by omega⟩ ?_)
 obtain⟨hp,B3⟩:=cP hB
 obtain⟨h6,Tj⟩:=eQ (c7 hB)
 refine bq (len:=c.1.length) (F:=fun n i (s:ku)=>j2.l5 N n c b s i) (fun i s=>s.length=4∧Ci (8+i) s) ⟨List.length_replicate ..,Ci.rep (by omega)⟩ (by omega) (fun n i s hi hI hr=> ?_) (fun n s hI=> ?_)
 all_goals unfold j2.l5 j2.c0
 ·have hk:=Tj i hi
  have hl:=hI.1
  rw[al (x:=(i:Int)+1) (by omega) (by omega),ae i,Int.toNat_natCast]
  have in1: ∀{x y:Option (ku×Int)},Ok (fun r=>(r.2=0→bV c b=true∧r.1.length=4)∧Ci 20 r.1) x→Ok (fun r=>(r.2=0→bV c b=true∧r.1.length=4)∧Ci 20 r.1) (cond (aL (c.1.getD i aJ).1 s.length) x y):=fun h=>ax ⟨hk.1,Int.lt_of_le_of_lt hk.2 (show(3:Int)<(s.length:Int)by omega)⟩ h
  exact av (fun _=>ax ⟨by omega,by omega⟩ (in1 (cf (o3 N w.s (by omega) 0 (i:Int)) (af (a7 N (by omega) (Ex w.qs 0 (i:Int))) fun a ha=>ax ⟨by omega,by omega⟩ (af (a7 N (by omega) (U8 (nN B3 (by omega)))) fun p hp=>af (kb N (by omega) (by omega) (by omega) ha hp) fun x hx=>af (ig N (by omega) (by omega) (Ci.at hI.2 (by omega) _) (Bg.mono hx (by omega))) fun y hy=>in1 (hr _ ⟨by rw[List.length_set];exact hl,Ci.set (Ci.mono hI.2 (by omega)) hy _⟩)))))) fun _=>by omega
 ·exact av (fun _=>by omega) fun _=>ah ⟨fun _=>⟨hB,hI.1⟩,Ci.mono hI.2 (by omega)⟩
theorem OM(N:Nat)(hN:5000000≤N)(c:aa)(hc:aC (pZ c)){b:ag}{m:Nat}(hm:m≤50000)(hb:G m az b)(next:Int):Ok (fun r=>G 4 (.slice cU) r.1) (mD N c b next):=by
 unfold mD mD.b
 refine af (Va N hN c hm hb) fun z hz=>bE (fun _=>ah G.nil) fun h0=>av (fun _=>ah G.nil) fun h1=>av (fun _=>ah G.nil) fun h2=> ?_
 obtain⟨hB,hl4⟩:=hz.1 h0
 obtain⟨hp,B3⟩:=cP hB
 obtain⟨h6,Tj⟩:=eQ (c7 hB)
 refine bq (len:=4) (F:=fun n k (s:Int×aD)=>mD.l6 N n s.1 c b z.1 s.2 k) (s:=(_,_)) (fun k s=>G k (.slice cU) s.2∧next≤s.1∧s.1≤next+k) ⟨G.nil,by omega,by omega⟩ (by omega) (fun n k s hk hI hr=> ?_) (fun n s hI=> ?_)
 all_goals unfold mD.l6 mD.pn
 ·have LY:=hI.1.1
  have Mh:=hI.2
  rw[al (x:=(k:Int)+1) (by omega) (by omega),ae k]
  have oN:=hr s ⟨G.mono (by omega) hI.1,by omega,by omega⟩
  refine av (fun _=>cf (AA N (by omega) c (by omega) (k:Int)) (ax ⟨by omega,by omega⟩ (af (sA N (by omega) (by omega) (Ci.at hz.2 (by omega) _)) fun u hu=>ok_eq (fun _=>oN) fun gi=>af (a7 N (by omega) hc) fun v hv=>af (pq N (by omega) (by omega) (by omega) hu hv) fun _ _=>dv (fun _=>oN) fun _=> ?_))) fun _=>by omega
  have ah8:bD c (k:Int)≠[]:=fun e=>gi (by rw[e];rfl)
  have hh:0≤(bD c (k:Int)).getD 0 0∧(bD c (k:Int)).getD 0 0<(c.1.length:Int):=by
   have h1:=ah8
   unfold bD at h1 ⊢
   rw[c7 hB,if_pos rfl]at h1 ⊢
   have:=sr h1
   omega
  have hl0:0<(bD c (k:Int)).length:=List.length_pos_iff.2 ah8
  have hpx:=nN B3 (i:=((bD c (k:Int)).getD 0 0).toNat) (by omega)
  have hj: ∀q:Int,aC q→Ok (fun r=>G 4 (.slice cU) r.1) (mD.rA N (mD.l6 N n) s.1 c b z.1 s.2 (k:Int) (bD c (k:Int)) q):=fun q hq=>by
   unfold mD.rA mD.mu
   rw[al (x:=(k:Int)+1) (by omega) (by omega),ae k,al (x:=s.1+1) (by omega) (by omega)]
   have uX: ∀d:Int,aC d→Ok (fun r=>G 4 (.slice cU) r.1) (cond (small (s.2.length+[((s.1,((bD c (k:Int)).getD 0 0,(d,(q,())))):bh)].length)) (mD.l6 N n (s.1+1) c b z.1 (s.2++[(s.1,((bD c (k:Int)).getD 0 0,(d,(q,()))))]) ((k+1:Nat):Int)) none):=fun d hd=>
    aF (by rw[List.length_singleton];omega) (hr (_,_) ⟨G.app hI.1 ⟨by show aC s.1;unfold aC;omega,(show aC ((bD c (k:Int)).getD 0 0)from gd (by omega) (by omega)),hd,hq,trivial⟩,by dsimp only;omega,by dsimp only;omega⟩)
   exact ok_eq (fun _=>oN) fun _=>ax ⟨by omega,by omega⟩ (ax ⟨by omega,by omega⟩ (af (zl N (Ci.at hz.2 (by omega) _)) fun _ _=>av (fun _=>uX 2 (gd (by omega) (by omega))) fun _=>uX 1 (gd (by omega) (by omega))))
  have hb9:aC 1000000000:=by unfold aC;decide
  refine ax ⟨by omega,by omega⟩ (ax ⟨hh.1,by show(bD c (k:Int)).getD 0 0<_;omega⟩ ?_)
  obtain⟨a,rfl,ha⟩:=hu
  have anB:=hpx
  unfold bw at anB
  rw[show(0:Int).toNat=0 from rfl]
  refine cf (fg N (by omega) (by omega) (by omega)) (cf (En N hN (by omega) (Fit.mono ha (by omega)) ((Fit.i64 (by omega) (by omega)).mono (by omega))) (cf (qu N _) (bH (fun _=>hj _ hb9) fun _=>av (fun _=>hj _ hb9) fun _=>hj _ (K0 _))))
 ·exact av (fun _=>by omega) fun _=>ah hI.1
end VM
end
section
namespace VM
open Go VM.F
theorem A6(N:Nat)(hN:200000≤N){l:aT}(hl:l.length≤100000)(a:Int):Ok (fun r=>L3 6 r) (eS N l a):=by
 unfold eS eS.b
 refine bq (len:=6) (F:=fun n k (s:aj)=>eS.l3 N n l a s k) (fun k s=>L3 k s) G.nil (by omega) (fun n k s hk hI hr=> ?_) (fun n s hI=> ?_)
 all_goals unfold eS.l3 eS.kq
 ·have hs:=hI.1
  refine av (fun _=> ?_) fun _=>by omega
  refine bq (len:=l.length) (F:=fun n' i (x:bW)=>eS.l7 N (eS.l3 N n) n' l a s (k:Int) x i) (fun i x=>G 6 fA x) (G3 (gd (by omega) (by omega)) aV aV) (by omega) (fun n' i x hi hx dD=> ?_) (fun n' x hx=> ?_)
  all_goals unfold eS.l7 eS.oT
  ·rw[al (x:=(i:Int)+1) (by omega) (by omega),ae i]
   have h1:=dD x hx
   repeat' first|exact h1|refine ax ⟨by omega,by omega⟩ ?_|refine av (fun _=> ?_) (fun _=> ?_)|refine bE (fun _=> ?_) (fun _=> ?_)|refine ok_eq (fun _=> ?_) (fun _=> ?_)|(exfalso;omega)|exact dD (_,(_,(_,_))) ⟨hx.1,dY _,hx.2.2.1,trivial⟩|exact dD (_,(_,(_,_))) ⟨hx.1,hx.2.1,dY _,trivial⟩
  ·rw[al (x:=(k:Int)+1) (by omega) (by omega),ae k]
   have h1:=hr s (G.mono (by omega) hI)
   have h2:=hr (s++[x]) ⟨by rw[List.length_append,List.length_singleton];omega,fun y hy=>by
    rcases List.mem_append.1 hy with hy|hy
    ·exact G.mono (by omega) (hI.2 y hy)
    ·rw[List.mem_singleton.1 hy];exact⟨hx.1,hx.2.1,hx.2.2.1,trivial⟩⟩
   repeat' first|exact h1|exact h2|refine aF (by rw[List.length_singleton];omega) ?_|refine av (fun _=> ?_) (fun _=> ?_)|(exfalso;omega)
 ·exact av (fun _=>by omega) fun _=>ah hI
theorem DA(N:Nat)(hN:200000≤N)(c:aa){l:aj}(hl:l.length≤100000):Ok (fun _=>True) (mV N c l):=by
 unfold mV mV.b
 refine cf (nH N (by omega) c) (bH (fun _=>ah trivial) fun _=>ka (len:=l.length) (F:=fun n i=>mV.l5 N n l c 33000000000 i) (by omega) (fun n i hi hr=> ?_) fun n=> ?_)
 all_goals unfold mV.l5 mV.c0
 ·rw[al (x:=(i:Int)+1) (by omega) (by omega),ae i]
  dsimp only
  repeat' first|exact hr|exact ah trivial|refine ax ⟨by omega,by omega⟩ ?_|refine ax (by rw[al (x:=(i:Int)-1) (by omega) (by omega)];omega) ?_|refine av (fun _=> ?_) (fun _=> ?_)|refine dv (fun _=> ?_) (fun _=> ?_)|refine ok_eq (fun _=> ?_) (fun _=> ?_)|(exfalso;omega)
 ·exact av (fun _=>by omega) fun _=>ah trivial
theorem EW{k:Nat}(h:1≤k):Bg k (false,(([]:List Int),())):=Bg.mono Bg.zero h
theorem RN(N:Nat)(hN:4000000≤N)(c:aa){l:au}{o:aj}{m:Nat}(hm:m≤50000)(hl:G m (.slice gC) l)(ho:L3 m o)(k:Int):Ok (fun r=>Bg 3 r.1) (fN N c l o k):=by
 have h1:=hl.1
 have h2:=ho.1
 unfold fN fN.b
 refine cf (vA N (by omega) c (by omega)) (bH (fun _=>ah (EW (by omega))) fun _=>af (DA N (by omega) c (by omega)) fun _ _=>bH (fun _=>ah (EW (by omega))) fun _=>av (fun _=>ah (EW (by omega))) fun _=>dv (fun _=>ah (EW (by omega))) fun _=> ?_)
 refine bq (len:=l.length) (F:=fun n i (q:aw)=>fN.l7 N n l o k (false,(([]:List Int),())) q (false,(([]:List Int),())) (false,(([]:List Int),())) i) (fun _ q=>Bg 2 q) (EW (by omega)) (by omega) (fun n i q hi hq hr=> ?_) (fun n q hq=> ?_)
 all_goals unfold fN.l7 fN.oT
 ·rw[al (x:=(i:Int)+1) (by omega) (by omega),ae i]
  exact av (fun _=>ax ⟨by omega,by omega⟩ (ok_eq (fun _=>ax ⟨by omega,by omega⟩ (af (a7 N hN (G.at hl _).2.1) fun r h=>hr r h)) fun _=>hr q hq)) fun _=>by omega
 ·refine av (fun _=>by omega) fun _=> ?_
  refine bq (len:=o.length) (F:=fun n i (z:aw×aw)=>fN.kL N n o k (false,(([]:List Int),())) q z.1 z.2 i) (s:=(_,_)) (fun _ z=>Bg 2 z.1∧Bg 2 z.2) ⟨EW (by omega),EW (by omega)⟩ (by omega) (fun n i z hi hz hr=> ?_) (fun n z hz=> ?_)
  all_goals unfold fN.kL fN.jV
  ·rw[al (x:=(i:Int)+1) (by omega) (by omega),ae i]
   exact av (fun _=>ax ⟨by omega,by omega⟩ (ok_eq (fun _=>ax ⟨by omega,by omega⟩ (af (a7 N hN (G.at ho _).2.1) fun r h=>ax ⟨by omega,by omega⟩ (af (a7 N hN (G.at ho _).2.2.1) fun r' h'=>hr (r,r') ⟨h,h'⟩))) fun _=>hr z hz)) fun _=>by omega
  ·exact av (fun _=>by omega) fun _=>af (ig N hN (by omega) hq hz.1) fun x hx=>af (sA N hN (by omega) hx) fun x hx=>af (vV N hN (by omega) hq hz.2) fun y hy=>af (sA N hN (by omega) hy) fun y hy=>af (pq N hN (by omega) (by omega) hy hx) fun _ _=>av (fun _=>ah hy) fun _=>ah hx
theorem HN(N:Nat)(hN:4000000≤N){c:aa}{l:au}{o:aj}{m:Nat}(hm:m≤50000)(hc:G m aq c)(hl:G m (.slice gC) l)(ho:L3 m o):Ok (fun r=>Bg 60000 r.1) (mW N c l o):=by
 have h1:=hl.1
 have h2:=ho.1
 have h3:=hc.1.1
 unfold mW mW.b
 refine cf (vA N (by omega) c (by omega)) (bH (fun _=>ah (EW (by omega))) fun _=>af (DA N (by omega) c (by omega)) fun _ _=>bH (fun _=>ah (EW (by omega))) fun _=> ?_)
 refine bq (len:=c.1.length) (F:=fun n i (t:aw)=>mW.l5 N n l o c (false,(([]:List Int),())) t i) (fun i t=>Bg (8+i) t) (EW (by omega)) (by omega) (fun n i t hi ht hr=> ?_) (fun n t ht=> ?_)
 all_goals unfold mW.l5 mW.c0
 ·rw[al (x:=(i:Int)+1) (by omega) (by omega),ae i]
  exact av (fun _=>af (RN N hN c hm hl ho _) fun x hx=>ax ⟨by omega,by omega⟩ (af (a7 N hN (G.at hc.1 _).2.2.1) fun r h=>af (kb N hN (by omega) (by omega) hx h) fun y hy=>af (ig N hN (by omega) ht (Bg.mono hy (by omega))) fun z hz=>hr z hz)) fun _=>by omega
 ·exact av (fun _=>by omega) fun _=>ah (Bg.mono ht (by omega))
theorem ah9{m:Nat}{l:aj}(h:L3 m l)(a:Int):G m (.slice gC) (posOf l a):=by
 refine⟨Nat.le_trans (C0 a l) h.1,fun y hy=> ?_⟩
 unfold posOf at hy
 split at hy
 ·obtain⟨x,hx,_,e⟩:=fL hy
  rw[e];exact⟨(h.2 x hx).2.1,(h.2 x hx).2.2.1,trivial⟩
 ·nomatch hy
theorem HO(N:Nat)(hN:200000≤N){l:aj}{m:Nat}(hm:m≤50000)(h:L3 m l)(a:Int):Ok (G m (.slice gC)) (tK N l a):=lW (Rh N (Nat.le_trans h.1 (by omega)) hN a) (ah9 h a)
theorem HQ(N:Nat)(hN:4000000≤N){c:aa}{b:ag}{l:aT}{m:Nat}(h2:200≤m)(hm:m≤40000)(hc:G m aq c)(hb:G m az b)(hl:l.length≤1000)(a:Int):Ok (Bg 60000) (RO N c b a l):=by
 have ho:=hb.2.2.2.2.2.1.1
 unfold RO
 refine aF (by rw[List.length_nil];omega) ?_
 dsimp only
 rw[List.nil_append]
 exact aF (by omega) (af (HO N (by omega) (by omega) hb.2.2.2.1 a) fun r h=>af (A6 N (by omega) (by rw[List.length_append];omega) a) fun o h'=>af (HN N hN (by omega) hc h (G.mono (by omega) h')) fun x hx=>ah hx)
end VM
end
section
namespace VM
open Go VM.F
theorem Vb(N:Nat)(hN:4000000≤N){o:cq}{m:Nat}(ho:G m jg o)(a:Int):Ok (fun r=>Bg 4 r.1) (Vc N o a):=by
 unfold Vc
 have hw: ∀x:Int,Ok (fun r:aw×Int=>Bg 4 r.1) ((gN N o.2.2.2.2.1).bind fun r5=>(gN N (W .i64 x)).bind fun r6=>(gv N r5 r6).bind fun r7=>some (r7,(0:Int))):=fun x=>
  af (a7 N hN ho.2.2.2.2.1) fun r h=>af (a7 N hN (dY _)) fun r' h'=>af (kb N hN (by omega) (by omega) h h') fun y hy=>ah hy
 exact cf (zb N o) (bH (fun _=>ah (EW (by omega))) fun _=>cf (js N a) (bH (fun _=>ah (EW (by omega))) fun _=>ok_eq (fun _=>av (fun _=>ah (EW (by omega))) fun _=>hw _) fun _=>av (fun _=>ah (EW (by omega))) fun _=>hw _))
theorem acw{m:Nat}{a:aD}(h:G m (.slice cU) a)(id:Int):G m cU (dx a id).1:=by
 unfold dx
 split
 ·have: ∀l:aD,(∀x∈l,G m cU x)→G m cU (sb id l).1:=by
   intro l
   induction l with
   |nil=>intro _;exact G.zero m cU
   |cons x t ih=>
    intro hx
    rw[qD]
    split
    ·exact hx x (List.mem_cons_self ..)
    ·exact ih fun y hy=>hx y (List.mem_cons_of_mem _ hy)
  exact this a h.2
 ·exact G.zero m cU
theorem s4(N:Nat)(hN:200000≤N){a:aD}{m:Nat}(hm:m≤50000)(h:G m (.slice cU) a)(id:Int):Ok (fun r=>G m cU r.1) (Ai N a id):=lW (GW N (Nat.le_trans h.1 (by omega)) hN id) (acw h id)
theorem ni(N:Nat)(hN:200000≤N){a:au}{m:Nat}(hm:m≤50000)(h:G m (.slice gC) a)(id:Int):Ok (fun _=>True) (vt N a id):=lW (Ah N (Nat.le_trans h.1 (by omega)) hN id) trivial
theorem nU(N:Nat)(hN:200000≤N){l:aj}{m:Nat}(hm:m≤50000)(h:L3 m l)(a b:Int):Ok aC (ri N l a b):=lW (Rg N (Nat.le_trans h.1 (by omega)) hN a b) (Ha (fun x hx=>(h.2 x hx).2.2.1) a b)
theorem HR(N:Nat)(hN:5000000≤N){c:aa}{b:ag}{o:cq}{m:Nat}(h2:200≤m)(hm:m≤40000)(hc:G m aq c)(hb:G m az b)(ho:G m jg o):Ok (fun _=>True) (RP N c b o):=by
 have yx:=hb.2.2.2.2.2.1.1
 unfold RP
 refine cf (dP N hN (by omega) hb) (bH (fun _=>ah trivial) fun hB=>cf (zb N o) (bH (fun _=>ah trivial) fun hr=>af (s4 N (by omega) (by omega) hb.2.1 _) fun x hx=>bH (fun _=>ah trivial) fun _=>af (ni N (by omega) (by omega) hb.1 _) fun _ _=>bE (fun _=>ah trivial) fun _=>dv (fun _=>ah trivial) fun hi=>aF (by rw[List.length_nil];omega) ?_))
 have hr:=of_decide_eq_true hr
 unfold gk jb at hr
 obtain⟨hp,_⟩:=cP hB
 dsimp only
 rw[List.nil_append]
 exact aF (by rw[List.length_singleton];omega) (af (HO N (by omega) (by omega) hb.2.2.2.1 _) fun r h=>af (A6 N (by omega) (by rw[List.length_append,List.length_singleton];omega) _) fun q h'=>af (RN N (by omega) c (by omega) h (G.mono (by omega) h') _) fun t ht=>af (a7 N (by omega) hx.2.2.2.1) fun v hv=>af (pq N (by omega) (by omega) (by omega) ht hv) fun _ _=>av (fun _=>ah trivial) fun _=>ax ⟨hr.2.2.1.1,by rw[hp];exact hi⟩ (af (Vb N (by omega) ho _) fun e he=>af (nU N (by omega) (by omega) hb.2.2.1 _ _) fun g hg=>af (a7 N (by omega) hg) fun y hy=>af (vV N (by omega) (by omega) (Bg.mono hy (by omega)) he) fun z hz=>af (HQ N (by omega) h2 hm hc hb (by rw[List.length_singleton];omega) _) fun u hu=>af (pq N (by omega) (by omega) (by omega) hz hu) fun _ _=>av (fun _=>ah trivial) fun _=>ah trivial))
theorem Vd(N:Nat)(hN:5000000≤N){c:aa}{b:ag}{h:bh}{a q p:Int}{m:Nat}(h2:200≤m)(hm:m≤40000)(hc:G m aq c)(hb:G m az b)(hh:G m cU h)(ha:aC a)(hq:aC q)(hp:aC p):Ok (fun r=>G m az r.1∧G m cU r.2.1) (qU N c b h a q p):=by
 have ho:G m jg (h.1,(a,(h.2.1,(W .i64 (3-h.2.2.1),(q,(p,())))))):=⟨hh.1,ha,hh.2.1,dY _,hq,hp,trivial⟩
 have ei: ∀e:Int,Ok (fun r:ag×bh×Int=>G m az r.1∧G m cU r.2.1) (some ((bF,(cc,(aY,(aY,(cv,(cF,())))))),(aJ,e))):=fun e=>ah ⟨G.fp,G.zero m cU⟩
 unfold qU qU.b
 have hj: ∀t:fZ,Ok (fun r=>G m az r.1∧G m cU r.2.1) (qU.j14 N q c b h (bF,(cc,(aY,(aY,(cv,(cF,())))))) aJ t):=fun t=>by
  unfold qU.j14 qU.acx
  exact af (Dy N hN c h2 (by omega) hb) fun r hr=>bE (fun _=>ei _) fun _=>ah ⟨hr,hh.1,hh.2.1,hh.2.2.1,dY _,trivial⟩
 exact cf (dP N hN (by omega) hb) (bH (fun _=>ei _) fun _=>cf (sy N h) (bH (fun _=>ei _) fun _=>av (fun _=>ei _) fun _=>av (fun _=>ei _) fun _=>av (fun _=>ei _) fun _=>av (fun _=>ei _) fun _=>av (fun _=>ei _) fun _=>av (fun _=>ei _) fun _=>av (fun _=>ei _) fun _=>af (HR N hN h2 hm hc hb ho) fun e _=>bE (fun _=>ei _) fun _=>ok_eq (fun _=>hj _) fun _=>hj _))
end VM
end
section
namespace VM
open Go VM.F
def Dk(k:Nat)(d:aK):Prop:=(∀x∈(d.1:List Int),0≤x∧x<18446744073709551616)∧0≤(d.2.1:Int)∧(d.2.1:Int)≤k
theorem Dk.mono{j k:Nat}{d:aK}(h:Dk j d)(hk:j≤k):Dk k d:=⟨h.1,h.2.1,Int.le_trans h.2.2 (by omega)⟩
def ow:Nat:=1000000000
theorem EX(N:Nat){k:Nat}{d:aK}(hk:k≤ow)(h:Dk k d):Ok (fun r=>(0≤r.1∧r.1<18446744073709551616)∧Dk (k+1) r.2) (F42 N d):=by
 obtain⟨h1,h2,h3⟩:=h
 unfold ow at hk
 unfold F42
 have hw: ∀i:Int,0≤i→i≤(k:Int)→0≤W .i64 (i+1)∧W .i64 (i+1)≤((k+1:Nat):Int):=fun i h0 h1=>by rw[al (by omega) (by omega)];omega
 have hd:Dk (k+1) (d.1,(W .i64 (d.2.1+1),d.2.2)):=⟨h1,hw _ h2 h3⟩
 have hg: ∀(l:List Int) (i:Int),(∀x∈l,0≤x∧x<18446744073709551616)→0≤l.getD i.toNat 0∧l.getD i.toNat 0<18446744073709551616:=fun l i hl=>by
  by_cases hi:i.toNat<l.length
  ·rw[List.getD_eq_getElem?_getD,List.getElem?_eq_getElem hi];exact hl _ (List.getElem_mem hi)
  ·rw[List.getD_eq_getElem?_getD,List.getElem?_eq_none (by omega)];decide
 exact av (fun dT=>ax ⟨h2,dT⟩ (ah ⟨hg _ _ h1,hd⟩)) fun _=>ah ⟨(show(0:Int)≤0∧(0:Int)<18446744073709551616 by decide),hd⟩
theorem rem_in{x y:Int}(h0:0≤x)(hy:0<y):0≤rem x y∧rem x y<y:=by
 unfold rem;rw[ff]
 exact⟨Int.tmod_nonneg _ h0,Int.tmod_lt_of_pos _ hy⟩
theorem gz(N:Nat){k:Nat}{d:aK}{n:Int}(hn:0<n∧n<1000000)(h:Dk k d)(hk:k≤ow:=by first|decide|(unfold ow;omega)):Ok (fun r=>(0≤r.1∧r.1<n)∧Dk (k+1) r.2) (ox N d n):=by
 unfold ox
 refine af (EX N hk h) fun r hr=> ?_
 dsimp only
 rw[bz (x:=n) (by omega) (by omega)]
 have:=rem_in hr.1.1 hn.1
 refine ok_eq (fun _=>by omega) fun _=>ah ⟨?_,hr.2⟩
 dsimp only
 rw[al (by omega) (by omega)]
 exact this
theorem uz(N:Nat){k:Nat}{d:aK}{n:Int}(hn:0<n∧n<1000000)(h:Dk k d)(hk:k≤ow:=by first|decide|(unfold ow;omega)):Ok (fun r=>Dk (k+1) r.2) (Tk N d n):=by
 unfold Tk
 exact af (gz N hn h hk) fun r hr=>ah hr.2
theorem pb(N:Nat){k:Nat}{d:aK}(h:Dk k d)(hk:k≤ow:=by first|decide|(unfold ow;omega)):Ok (fun r=>aC r.1∧Dk (k+1) r.2) (JN N d):=by
 unfold JN
 refine af (EX N hk h) fun r hr=>ok_eq (fun _=>by omega) fun _=> ?_
 dsimp only
 repeat' first|exact ah ⟨dY _,hr.2⟩|refine av (fun _=> ?_) (fun _=> ?_)|refine ok_eq (fun _=> ?_) (fun _=> ?_)|(exfalso;omega)
theorem HS{x y:Int}(hy:0<y)(Ui:y<9223372036854775808):aC (rem x y):=by
 unfold rem;rw[ff]
 have h1:=Int.tmod_lt_of_pos x hy
 have h2: -y<x.tmod y:=by
  have:=Int.tmod_lt_of_pos (-x) hy
  rw[Int.neg_tmod]at this;omega
 unfold aC;omega
theorem w1{x y:Int}(hx:aC x)(hy:aC y):aC (mx x y):=by unfold mx;rw[ff];split<;>assumption
theorem Ve{x y:Int}(hx:aC x)(hy:aC y):aC (mn x y):=by unfold mn;rw[ff];split<;>assumption
theorem jh{x n:Int}(h:0≤x∧x<n)(hn:n≤1000000):aC x:=gd (by omega) (by omega)
theorem ON(N:Nat)(hN:100≤N){d:aK}(h:Dk 0 d):Ok (fun r=>(G 5 aq r.1∧1≤r.1.1.length)∧Dk 1000 r.2) (qV N d):=by
 unfold qV qV.b
 refine af (gz N (by decide) h) fun r hr=> ?_
 rw[al (x:=1+r.1) (by omega) (by omega)]
 obtain⟨k,hk⟩: ∃k:Nat,1+r.1=(k:Int):=⟨(1+r.1).toNat,by omega⟩
 rw[hk]
 refine zk (F:=fun n x (s:aK×aD)=>qV.l3 N n s.1 ([],dQ) ([],dQ) s.2 x) (fun x s=>x+s.2.length=k∧Dk (1+20*s.2.length) s.1∧G 4 (.slice cU) s.2) (fun n x s hI hr=> ?_) (fun n s hI=> ?_) k N (r.2,_) (by omega) ⟨rfl,hr.2,G.nil⟩
 all_goals unfold qV.l3 qV.kq
 ·obtain⟨hx,hd,hG⟩:=hI
  have hl:=hG.1
  have uX: ∀(d:aK) (x4:bh),Dk (1+20*s.2.length+10) d→G 4 cU x4→Ok (fun r=>(G 5 aq r.1∧1≤r.1.1.length)∧Dk 1000 r.2) (cond (small (s.2.length+[x4].length)) (qV.l3 N n d ([],dQ) ([],dQ) (s.2++[x4]) (W .i64 (((x+1:Nat):Int)-1))) none):=fun d x4 hd hx4=>by
   rw[al (x:=((x+1:Nat):Int)-1) (by omega) (by omega),show((x+1:Nat):Int)-1=(x:Int)by omega]
   refine aF (by rw[List.length_singleton];omega) (hr (_,_) ⟨by rw[List.length_append,List.length_singleton];omega,Dk.mono hd (by rw[List.length_append,List.length_singleton];omega),?_⟩)
   refine⟨by rw[List.length_append,List.length_singleton];omega,fun y hy=> ?_⟩
   rcases List.mem_append.1 hy with hy|hy
   ·exact hG.2 y hy
   ·rw[List.mem_singleton.1 hy];exact hx4
  have hj: ∀(d:aK) (x5:bh),Dk (1+20*s.2.length+6) d→G 4 cU x5→Ok (fun r=>(G 5 aq r.1∧1≤r.1.1.length)∧Dk 1000 r.2) (qV.j8 N (qV.l3 N n) d ([],dQ) ([],dQ) s.2 ((x+1:Nat):Int) x5):=fun d x5 hd hx5=>by
   unfold qV.j8 qV.Rb
   refine af (uz N (by decide) hd) fun r hd=>qT (fun _=> ?_) fun _=>uX _ _ (Dk.mono hd (by omega)) hx5
   refine af (pb N hd) fun r ⟨_,hd⟩=>ok_eq (fun _=>by omega) fun _=> ?_
   dsimp only
   exact af (pb N hd) fun r ⟨_,hd⟩=>ok_eq (fun _=>by omega) fun _=>uX _ _ (Dk.mono hd (by omega)) ⟨hx5.1,hx5.2.1,HS (by decide) (by decide),HS (by decide) (by decide),hx5.2.2.2.2⟩
  refine av (fun _=> ?_) fun _=>by omega
  refine af (gz N (by decide) hd) fun a ⟨ha,hd⟩=>af (gz N (by decide) hd) fun b ⟨hb,hd⟩=>af (gz N (by decide) hd) fun c ⟨hc,hd⟩=>af (gz N (by decide) hd) fun e ⟨he,hd⟩=>af (uz N (by decide) hd) fun r hd=>qT (fun _=>af (pb N hd) fun r ⟨_,hd⟩=>ok_eq (fun _=>by omega) fun _=>hj _ _ (Dk.mono hd (by omega)) ?_) fun _=>hj _ _ (Dk.mono hd (by omega)) ?_
  all_goals exact⟨jh ha (by decide),dY _,jh hc (by decide),jh he (by decide),trivial⟩
 ·obtain⟨hx,hd,hG⟩:=hI
  have hl:=hG.1
  have hd:Dk 900 s.1:=Dk.mono hd (by omega)
  refine av (fun _=>by omega) fun _=>af (gz N (by decide) hd) fun a ⟨ha,hd⟩=>af (gz N (by decide) hd) fun b ⟨hb,hd⟩=>af (gz N (by decide) hd) fun c ⟨hc,hd⟩=>af (gz N (by decide) hd) fun e ⟨he,hd⟩=>af (gz N (by decide) hd) fun f ⟨hf,hd⟩=> ?_
  dsimp only
  refine af (gz N (by decide) hd) fun g ⟨hg,hd⟩=>af (uz N (by decide) hd) fun r hd=>qT (fun _=>af (pb N hd) fun r ⟨hr,hd⟩=>ah ⟨⟨⟨G.mono (by decide) hG,?_⟩,by dsimp only;omega⟩,Dk.mono hd (by decide)⟩) fun _=>ah ⟨⟨⟨G.mono (by decide) hG,?_⟩,by dsimp only;omega⟩,Dk.mono hd (by decide)⟩
  ·exact⟨hr,jh hb (by decide),jh hc (by decide),jh he (by decide),dY _,jh hg (by decide),trivial⟩
  ·exact⟨jh ha (by decide),jh hb (by decide),jh hc (by decide),jh he (by decide),dY _,jh hg (by decide),trivial⟩
abbrev Pz(m:Nat)(l:gg):Prop:=G m (.slice nj) l
theorem yM{k a b c d e f g:Int}{m:Nat}(h0:aC k)(h1:aC a)(h2:aC b)(h3:aC c)(h4:aC d)(h5:aC e)(h6:aC f)(h7:aC g):G m nj (k,(a,(b,(c,(d,(e,(f,(g,())))))))):=⟨h0,h1,h2,h3,h4,h5,h6,h7,trivial⟩
theorem aW{x:Int}(h: -1000000≤x∧x≤1000000:=by decide):aC x:=gd h.1 h.2
theorem EY(N:Nat){k:Nat}{d:aK}(h:Dk k d)(c:aa){i:Int}(hi:0≤i∧i<(c.1.length:Int))(hc:c.1.length≤5)(hk:k≤100000000):Ok (fun r=>G 0 nj r.1∧Dk (k+5) r.2) (OO N d c i):=by
 unfold OO
 have hb:aC 1000000000000:=by unfold aC;decide
 have kk:aC i:=gd (by omega) (by omega)
 exact ax hi (af (gz N (by decide) h) fun a ⟨_,hd⟩=>af (uz N (by decide) hd) fun r hd=>qT (fun _=>af (pb N hd) fun r ⟨_,hd⟩=>ok_eq (fun _=>by omega) fun _=>ah ⟨yM aW aW aW kk aW aW aW (dY _),Dk.mono hd (by omega)⟩) fun _=>ah ⟨yM aW aW aW kk aW aW aW (w1 aW (Ve hb (dY _))),Dk.mono hd (by omega)⟩)
theorem HT(N:Nat){k:Nat}{d:aK}(h:Dk k d)(c:aa)(Pp:1≤c.1.length)(hc:c.1.length≤5)(hk:k≤100000000):Ok (fun r=>G 0 nj r.1∧Dk (k+10) r.2) (RQ N d c):=by
 unfold RQ
 have hb:aC 1000000000000:=by unfold aC;decide
 refine af (gz N ⟨by omega,by omega⟩ h) fun a ⟨ha,hd⟩=>af (gz N (by decide) hd) fun b ⟨dF,hd⟩=> ?_
 dsimp only
 refine af (gz N (by decide) hd) fun e ⟨he,hd⟩=>af (gz N (by decide) hd) fun f ⟨hf,hd⟩=>ax ha (af (gz N (by decide) hd) fun g ⟨_,hd⟩=>af (uz N (by decide) hd) fun r hd=>qT (fun _=>af (pb N hd) fun r ⟨_,hd⟩=>ok_eq (fun _=>by omega) fun _=>af (pb N hd) fun r' ⟨_,hd⟩=>ok_eq (fun _=>by omega) fun _=>ah ⟨yM aW aW (dY _) (jh ha (by omega)) (dY _) aW (dY _) (dY _),Dk.mono hd (by omega)⟩) fun _=>ah ⟨yM aW aW (dY _) (jh ha (by omega)) (dY _) aW (dY _) (w1 aW (Ve hb (dY _))),Dk.mono hd (by omega)⟩)
end VM
end
section
namespace VM
open Go VM.F
structure Cf(c:aa):Prop where
 g:G 5 aq c
 n:1≤c.1.length
theorem HU(N:Nat){k:Nat}{d:aK}(h:Dk k d){c:aa}(hc:Cf c)(hk:k≤10000000):Ok (fun r=>G 0 nj r.1∧Dk (k+20) r.2) (RS N d c):=by
 have hn:=hc.n
 have hl:=hc.g.1.1
 unfold RS
 refine af (gz N (by decide) h) fun a ⟨ha,hd⟩=> ?_
 dsimp only
 refine af (gz N (by decide) hd) fun b ⟨hb,hd⟩=>af (gz N ⟨by omega,by omega⟩ hd) fun i ⟨hi,hd⟩=>af (gz N (by decide) hd) fun e ⟨he,hd⟩=> ?_
 have hz: ∀(e:fO) (j:Nat) (d:aK),G 0 nj e→Dk j d→j≤k+20→Ok (fun r=>G 0 nj r.1∧Dk (k+20) r.2) (some (e,d)):=fun e j d he hd hj=>ah ⟨he,Dk.mono hd hj⟩
 have hs: ∀{f:Int×aK→Option (fO×aK)},(∀x d,aC x→Dk (k+5) d→Ok (fun r=>G 0 nj r.1∧Dk (k+20) r.2) (f (x,d)))→Ok (fun r=>G 0 nj r.1∧Dk (k+20) r.2) ((JN N e.2).bind f):=fun hf=>af (pb N hd) fun r ⟨h1,h2⟩=>hf r.1 r.2 h1 (Dk.mono h2 (by omega))
 have hm: ∀{n:Int} {f:Int×aK→Option (fO×aK)},0<n∧n<1000000→(∀x d,Dk (k+5) d→Ok (fun r=>G 0 nj r.1∧Dk (k+20) r.2) (f (x,d)))→Ok (fun r=>G 0 nj r.1∧Dk (k+20) r.2) ((ox N e.2 n).bind f):=fun hn hf=>af (gz N hn hd) fun r ⟨h1,h2⟩=>hf r.1 r.2 (Dk.mono h2 (by omega))
 repeat' first
  |refine ok_eq (fun _=> ?_) (fun _=> ?_)
  |(exfalso;omega)
  |(refine hs fun x d' hx T9=> ?_;dsimp only)
  |(refine hm (by decide) fun x d' T9=> ?_;dsimp only)
  |(refine hz _ _ _ ?_ hd (by omega);refine⟨?_,?_,?_,?_,?_,?_,?_,?_,trivial⟩<;>first|exact dY _|exact aV|exact w1 hx aW|exact HS (by decide) (by decide)|exact(G.at hc.g.1 _).2.1)
  |(refine hz _ _ _ ?_ T9 (by omega);refine⟨?_,?_,?_,?_,?_,?_,?_,?_,trivial⟩<;>first|exact dY _|exact aV|exact w1 hx aW|exact HS (by decide) (by decide)|exact(G.at hc.g.1 _).2.1)
  |(refine hz _ _ _ ?_ h2 (by omega);refine⟨?_,?_,?_,?_,?_,?_,?_,?_,trivial⟩<;>first|exact dY _|exact aV|exact w1 hx aW|exact HS (by decide) (by decide)|exact(G.at hc.g.1 _).2.1)
  |exact af (EY N hd c hi hl (by omega)) fun r ⟨h1,h2⟩=>hz _ _ _ h1 h2 (by omega)
  |exact af (HT N hd c hn hl (by omega)) fun r ⟨h1,h2⟩=>hz _ _ _ h1 h2 (by omega)
  |refine ax hi ?_
  |(refine af (gz N (by decide) T9) fun r ⟨h1,h2⟩=> ?_)
end VM
end
section
namespace VM
open Go VM.F
theorem G.cat{m n:Nat}{e:Ty}{l k:List e.den}(h:G m (.slice e) l)(h':G n (.slice e) k):G (m+n) (.slice e) (l++k):=
 ⟨by have:=h.1;have:=h'.1;rw[List.length_append];omega,fun y hy=>by
  rcases List.mem_append.1 hy with hy|hy
  ·exact G.mono (by omega) (h.2 y hy)
  ·exact G.mono (by omega) (h'.2 y hy)⟩
theorem G.two{m:Nat}{e:Ty}{a b:e.den}(ha:G 0 e a)(hb:G 0 e b)(hm:2≤m):G m (.slice e) [a,b]:=
 ⟨hm,fun y hy=>by
  rcases List.mem_cons.1 hy with rfl|hy
  ·exact G.mono (by omega) ha
  ·rw[List.mem_singleton.1 hy];exact G.mono (by omega) hb⟩
theorem G.one{m:Nat}{e:Ty}{a:e.den}(ha:G 0 e a)(hm:1≤m):G m (.slice e) [a]:=
 ⟨hm,fun y hy=>by rw[List.mem_singleton.1 hy];exact G.mono (by omega) ha⟩
theorem s6{α:Type}(a b:α):[a,b].length=2:=rfl
theorem K4(N:Nat)(hN:100≤N){k:Nat}{d:aK}(h:Dk k d)(c:aa)(hk:k≤10000000):Ok (fun r=>Pz 40 r.1∧Dk (k+50) r.2) (dL N d c):=by
 have s64: ∀i:Nat,i<100→aC (i:Int):=fun i hi=>gd (by omega) (by omega)
 unfold dL dL.b
 refine iU (len:=5) (F:=fun n i (s:aK×gg)=>dL.l3 N n s.1 s.2 i) (fun i s=>Dk (k+2*i) s.1∧Pz (3*i) s.2) (fun n i s hi hI hr=> ?_) (fun n s hI=> ?_) 5 N 1 (d,[]) (by omega) (by omega) (by omega) ⟨Dk.mono h (by omega),G.nil⟩
 all_goals unfold dL.l3 dL.kq
 ·have hl:=hI.2.1
  have kk:=s64 i (by omega)
  dsimp only
  rw[al (x:=(i:Int)+1) (by omega) (by omega),ae i]
  have h2:Pz (3*i+2) (s.2++[((1:Int),((i:Int),dQ)),((2:Int),((i:Int),((i:Int),((0:Int),((1:Int),aQ)))))]):=G.cat hI.2 (G.two (yM aW kk aV aV aV aV aV aV) (yM aW kk kk aV aW aV aV aV) (by omega))
  have hl2:=h2.1
  exact dv (fun _=>aF (by rw[s6];omega) (af (uz N (by decide) hI.1 (by unfold ow;omega)) fun r hd=>bH (fun _=>af (gz N (by decide) hd (by unfold ow;omega)) fun r ⟨_,hd⟩=>aF (by rw[List.length_singleton];omega) (hr (_,_) ⟨Dk.mono hd (by omega),G.mono (by omega) (G.cat h2 (G.one (m:=1) (yM aW kk aV aV aV aV (dY _) aV) (by omega)))⟩)) fun _=>hr (_,_) ⟨Dk.mono hd (by omega),G.mono (by omega) h2⟩)) fun _=>by omega
 ·refine dv (fun _=>by omega) fun _=> ?_
  refine iU (len:=8) (F:=fun n i (s:aK×gg)=>dL.l9 N n s.1 s.2 i) (fun i s=>Dk (k+10+i) s.1∧Pz (15+i) s.2) (fun n i s hi hI hr=> ?_) (fun n s hI=> ?_) 8 N 5 s (by omega) (by omega) (by omega) ⟨Dk.mono hI.1 (by omega),G.mono (by omega) hI.2⟩
  all_goals unfold dL.l9 dL.tk
  ·have hl:=hI.2.1
   dsimp only
   rw[al (x:=(i:Int)+1) (by omega) (by omega),ae i]
   exact dv (fun _=>af (gz N (by decide) hI.1 (by unfold ow;omega)) fun r ⟨_,hd⟩=>aF (by rw[List.length_singleton];omega) (hr (_,_) ⟨Dk.mono hd (by omega),G.mono (by omega) (G.cat hI.2 (G.one (m:=1) (yM aW (dY _) (s64 i (by omega)) aV aW aV aV aV) (by omega)))⟩)) fun _=>by omega
  ·refine dv (fun _=>by omega) fun _=> ?_
   refine iU (len:=8) (F:=fun n i (s:aK×gg)=>dL.lN N n s.1 s.2 i) (fun i s=>Dk (k+18+2*i) s.1∧Pz (23+2*i) s.2) (fun n i s hi hI hr=> ?_) (fun n s hI=> ?_) 8 N 1 s (by omega) (by omega) (by omega) ⟨Dk.mono hI.1 (by omega),G.mono (by omega) hI.2⟩
   all_goals unfold dL.lN dL.jY
   ·have hl:=hI.2.1
    have kk:=s64 i (by omega)
    dsimp only
    rw[al (x:=(i:Int)+1) (by omega) (by omega),ae i]
    exact dv (fun _=>af (gz N (by decide) hI.1 (by unfold ow;omega)) fun r ⟨_,hd⟩=>af (gz N (by decide) hd (by unfold ow;omega)) fun r ⟨_,hd⟩=>aF (by rw[s6];omega) (hr (_,_) ⟨Dk.mono hd (by omega),G.mono (by omega) (G.cat hI.2 (G.two (m:=2) (yM aW aV kk aV aV aV (dY _) aV) (yM aW aV kk aV aV aV (dY _) aV) (by omega)))⟩)) fun _=>by omega
   ·exact dv (fun _=>by omega) fun _=>ah ⟨G.mono (by omega) hI.2,Dk.mono hI.1 (by omega)⟩
theorem RT{x:Nat}(h:x<1000000):W .i64 (((x+1:Nat):Int)-1)=(x:Int):=by rw[al (by omega) (by omega)];omega
theorem OP(N:Nat)(hN:1000≤N){k:Nat}{d:aK}(h:Dk k d){c:aa}(hc:Cf c){HV:Int}(hm:0≤HV∧HV≤100)(hk:k≤10000):Ok (fun r=>Pz 200 r.1∧Dk (k+3000) r.2) (zm N d c HV):=by
 have hn:=hc.n
 have hl:=hc.g.1.1
 unfold zm zm.b
 rw[al (x:=HV+1) (by omega) (by omega)]
 refine af (K4 N (by omega) h c (by omega)) fun r ⟨Ef,hd⟩=>af (gz N ⟨by omega,by omega⟩ hd (by unfold ow;omega)) fun z ⟨hz,hd⟩=> ?_
 obtain⟨j,hj⟩: ∃j:Nat,z.1=(j:Int):=⟨z.1.toNat,by omega⟩
 rw[hj]
 refine zk (F:=fun n x (s:aK×gg)=>zm.l3 N n s.1 c s.2 x) (fun x s=>x≤100∧Dk (k+100+25*(100-x)) s.1∧Pz (40+(100-x)) s.2) (fun n x s hI hr=> ?_) (fun n s hI=> ?_) j N (z.2,r.1) (by omega) ⟨by omega,Dk.mono hd (by omega),G.mono (by omega) Ef⟩
 all_goals unfold zm.l3 zm.kq
 ·obtain⟨hx,hd,hG⟩:=hI
  have hs:=hG.1
  rw[RT (by omega)]
  have put: ∀(e:fO) (d:aK) (q:Nat),G 0 nj e→Dk q d→q≤k+100+25*(100-(x+1))+25→Ok (fun r=>Pz 200 r.1∧Dk (k+3000) r.2) (cond (small (s.2.length+[e].length)) (zm.l3 N n d c (s.2++[e]) (x:Int)) none):=fun e d q he hd hq=>aF (by rw[List.length_singleton];omega) (hr (_,_) ⟨by omega,Dk.mono hd (by omega),G.mono (by omega) (G.cat hG (G.one (m:=1) he (by omega)))⟩)
  exact av (fun _=>af (gz N (by decide) hd (by unfold ow;omega)) fun a ⟨_,hd⟩=>ok_eq (fun _=>af (HU N hd hc (by omega)) fun r ⟨h1,h2⟩=>put _ _ _ h1 h2 (by omega)) fun _=>ok_eq (fun _=>af (gz N ⟨by omega,by omega⟩ hd (by unfold ow;omega)) fun b ⟨hb,hd⟩=>af (EY N hd c hb hl (by omega)) fun r ⟨h1,h2⟩=>put _ _ _ h1 h2 (by omega)) fun _=>af (HT N hd c hn hl (by omega)) fun r ⟨h1,h2⟩=>put _ _ _ h1 h2 (by omega)) fun _=>by omega
 ·exact av (fun _=>by omega) fun _=>ah ⟨G.mono (by omega) hI.2.2,Dk.mono hI.2.1 (by omega)⟩
theorem HW(N:Nat)(hN:1000≤N){k:Nat}{d:aK}(h:Dk k d){c:aa}(hc:Cf c)(hk:k≤100000):Ok (fun r=>Pz 3 r.1∧Dk (k+100) r.2) (yN N d c):=by
 have hn:=hc.n
 have hl:=hc.g.1.1
 unfold yN yN.b
 refine af (gz N (by decide) h (by unfold ow;omega)) fun z ⟨hz,hd⟩=> ?_
 obtain⟨j,hj⟩: ∃j:Nat,z.1=(j:Int):=⟨z.1.toNat,by omega⟩
 rw[hj]
 refine zk (F:=fun n x (s:aK×gg)=>yN.l3 N n s.1 c s.2 x) (fun x s=>x≤3∧Dk (k+1+25*(3-x)) s.1∧Pz (3-x) s.2) (fun n x s hI hr=> ?_) (fun n s hI=> ?_) j N (z.2,[]) (by omega) ⟨by omega,Dk.mono hd (by omega),G.nil⟩
 all_goals unfold yN.l3 yN.kq
 ·obtain⟨hx,hd,hG⟩:=hI
  have hs:=hG.1
  rw[RT (by omega)]
  have put: ∀(e:fO) (d:aK) (q:Nat),G 0 nj e→Dk q d→q≤k+1+25*(3-(x+1))+25→Ok (fun r=>Pz 3 r.1∧Dk (k+100) r.2) (cond (small (s.2.length+[e].length)) (yN.l3 N n d c (s.2++[e]) (x:Int)) none):=fun e d q he hd hq=>aF (by rw[List.length_singleton];omega) (hr (_,_) ⟨by omega,Dk.mono hd (by omega),G.mono (by omega) (G.cat hG (G.one (m:=1) he (by omega)))⟩)
  exact av (fun _=>af (uz N (by decide) hd (by unfold ow;omega)) fun a hd=>qT (fun _=>af (gz N ⟨by omega,by omega⟩ hd (by unfold ow;omega)) fun b ⟨hb,hd⟩=>af (EY N hd c hb hl (by omega)) fun r ⟨h1,h2⟩=>put _ _ _ h1 h2 (by omega)) fun _=>af (HU N hd hc (by omega)) fun r ⟨h1,h2⟩=>put _ _ _ h1 h2 (by omega)) fun _=>by omega
 ·exact av (fun _=>by omega) fun _=>ah ⟨G.mono (by omega) hI.2.2,Dk.mono hI.2.1 (by omega)⟩
end VM
end
section
namespace VM
open Go VM.F
theorem dw{α:Type}{r:α}:Ok (fun _=>True) (some r):=ah trivial
theorem OQ(N:Nat)(k:Int):Ok (fun s=>ByteArray.size s≤100) (Vf N k):=by
 unfold Vf
 repeat' first|refine ok_eq (fun _=> ?_) (fun _=> ?_)|exact ah (by decide)
theorem OR(N:Nat)(k f:Int):Ok (fun _=>True) (Vg N k f):=by
 unfold Vg acy acz
 repeat' first|refine ok_eq (fun _=> ?_) (fun _=> ?_)|exact dw|refine af (Q:=fun _=>True) ?_ fun _ _=>dw
theorem RU(N:Nat)(e:fO)(f:Int):Ok (fun _=>True) (Vh N e f):=by
 unfold Vh
 repeat' first|refine ok_eq (fun _=> ?_) (fun _=> ?_)|exact dw
theorem RV(N:Nat)(e:fO)(f x:Int):Ok (fun _=>True) (Vi N e f x):=by
 unfold Vi
 repeat' first|refine ok_eq (fun _=> ?_) (fun _=> ?_)|exact dw
theorem OS(N:Nat)(hN:1000≤N)(e:fO):Ok (fun _=>True) (nV N e):=by
 unfold nV nV.b acA
 refine af (Q:=fun _=>True) (dv (fun _=>dw) fun _=>dw) fun _ _=>bH (fun _=>dw) fun _=>af (OQ N _) fun s hs=> ?_
 refine bq (len:=ByteArray.size s) (F:=fun n i (x:fO)=>nV.l6 N n e s x i) (fun _ _=>True) trivial (by omega) (fun n i x hi _ hr=> ?_) (fun n x _=> ?_)
 all_goals unfold nV.l6 nV.pn
 ·rw[al (x:=(i:Int)+1) (by omega) (by omega),ae i]
  exact av (fun _=>ax ⟨by omega,by omega⟩ (af (OR N _ _) fun _ _=>ax ⟨by omega,by omega⟩ (af (RU N _ _) fun _ _=>av (fun _=>dw) fun _=>av (fun _=>dw) fun _=>ax ⟨by omega,by omega⟩ (af (RV N _ _ _) fun y _=>hr y trivial)))) fun _=>by omega
 ·exact av (fun _=>by omega) fun _=>dw
theorem G.ins{m:Nat}{e:Ty}{l:List e.den}{x:e.den}(h:G m (.slice e) l)(hx:G m e x)(a b c:Nat)(ha:c≤a):G (m+1) (.slice e) ((([]++List.drop b (List.take c l))++[x])++List.drop a (List.take l.length l)):=by
 have:=h.1
 refine⟨?_,fun y hy=> ?_⟩
 ·simp only[List.nil_append,List.length_append,List.length_drop,List.length_take,List.length_singleton];omega
 ·rw[List.nil_append,List.append_assoc]at hy
  rcases List.mem_append.1 hy with hy|hy
  ·exact G.mono (by omega) (h.2 y (List.mem_of_mem_take (List.mem_of_mem_drop hy)))
  ·rcases List.mem_append.1 hy with hy|hy
   ·rw[List.mem_singleton.1 hy];exact G.mono (by omega) hx
   ·exact G.mono (by omega) (h.2 y (List.mem_of_mem_take (List.mem_of_mem_drop hy)))
theorem RW{α:Type}{P:List α×Int→Prop}{l:List α}{x:α}{k:Nat}{e:Int}(hk:k≤l.length)(hl:l.length≤1000000)(h:P ((([]++List.drop (0:Int).toNat (List.take (k:Int).toNat l))++[x])++List.drop (k:Int).toNat (List.take (l.length:Int).toNat l),e)):
  Ok P (cond (gD 0 (k:Int) (l.length:Int) (l.length:Int)) (let v6:List α:=List.drop (0:Int).toNat (List.take (k:Int).toNat l);cond (small (([]:List α).length+v6.length)) (let v7:List α:=[]++v6;cond (small (v7.length+[x].length)) (let v8:List α:=v7++[x];cond (gD (k:Int) (l.length:Int) (l.length:Int) (l.length:Int)) (let v9:List α:=List.drop (k:Int).toNat (List.take (l.length:Int).toNat l);cond (small (v8.length+v9.length)) (some ((v8++v9),e)) none) none) none) none) none):=by
 dsimp only
 have t: ∀a b:Nat,(List.drop a (List.take b l)).length≤l.length:=fun a b=>by rw[List.length_drop,List.length_take];omega
 have t1:=t (0:Int).toNat (k:Int).toNat
 have t2:=t (k:Int).toNat (l.length:Int).toNat
 refine EV ⟨by omega,by omega,by omega,by omega⟩ (aF (by rw[List.length_nil];omega) (aF ?_ (EV ⟨by omega,by omega,by omega,by omega⟩ (aF ?_ (ah h)))))
 ·rw[List.nil_append,List.length_singleton];omega
 ·rw[List.nil_append,List.length_append,List.length_singleton];omega
theorem RX(N:Nat)(hN:200000≤N){a:au}{m:Nat}(hm:m≤50000)(h:G m (.slice gC) a){id:Int}(aU:aC id):Ok (fun r=>G (m+1) (.slice gC) r.1) (ij N a id):=by
 have hl:=h.1
 unfold ij ij.b
 refine cf (oV N (by omega) hN) (bH (fun _=>ah G.nil) fun _=>av (fun _=>ah G.nil) fun _=>av (fun _=>ah G.nil) fun _=>cf (kI N (by omega) hN id) (bE (fun _=>ah G.nil) fun _=> ?_))
 have fin: ∀k:Nat,k≤a.length→Ok (fun r=>G (m+1) (.slice gC) r.1) (ij.j9 N a id [] (k:Int)):=fun k hk=>by
  unfold ij.j9 ij.Ki
  have hx:G m gC (id,((1:Int),())):=⟨aU,(show aC 1 from aW),trivial⟩
  exact RW hk (by omega) (by simpa using G.ins h hx k 0 k (Nat.le_refl _))
 refine ka (len:=a.length) (F:=fun n i=>ij.l7 N n a id [] i) (by omega) (fun n i hi hr=> ?_) (fun n=> ?_)
 all_goals unfold ij.l7 ij.oT
 ·rw[al (x:=(i:Int)+1) (by omega) (by omega),ae i]
  exact av (fun _=>ax ⟨by omega,by omega⟩ (av (fun _=>hr) fun _=>fin i (by omega))) fun _=>by omega
 ·exact av (fun _=>by omega) fun _=>fin _ (Nat.le_refl _)
end VM
end
section
namespace VM
open Go VM.F
theorem G4q{m:Nat}{x:bh}{q:Int}(h:G m cU x)(hq:aC q):G m cU (x.1,(x.2.1,(x.2.2.1,(q,x.2.2.2.2)))):=⟨h.1,h.2.1,h.2.2.1,hq,trivial⟩
theorem G4b{m:Nat}{x:bh}{q:Int}(h:G m cU x)(hq:aC q):G m cU (x.1,(q,x.2.2)):=⟨h.1,hq,h.2.2⟩
theorem G2b{m:Nat}{x:Ks}{q:Int}(h:G m gC x)(hq:aC q):G m gC (x.1,(q,x.2.2)):=⟨h.1,hq,trivial⟩
theorem EZ(N:Nat)(hN:200000≤N){l:aD}(hl:l.length≤100000):Ok (fun _=>True) (iQ N l):=lW (vw N hl hN) trivial
theorem Vj(N:Nat)(hN:200000≤N){a:au}{l:aD}{x:bh}{m:Nat}(hm:m≤50000)(ha:G m (.slice gC) a)(h:G m (.slice cU) l)(hx:G 0 cU x):Ok (fun r=>G (m+1) (.slice cU) r.1) (eI N a l x):=by
 have h1:=ha.1
 have hl:=h.1
 have fin: ∀k:Nat,k≤l.length→Ok (fun r=>G (m+1) (.slice cU) r.1) (eI.rA N l x [] (k:Int)):=fun k hk=>by
  unfold eI.rA eI.mu
  exact RW hk (by omega) (by simpa using G.ins h (G.mono (Nat.zero_le m) hx) k 0 k (Nat.le_refl _))
 have hj:Ok (fun r=>G (m+1) (.slice cU) r.1) (eI.JO N l x):=by
  unfold eI.JO eI.A7
  refine ka (len:=l.length) (F:=fun n i=>eI.lN N n l x [] i) (by omega) (fun n i hi hr=> ?_) (fun n=> ?_)
  all_goals unfold eI.lN eI.jY
  ·rw[al (x:=(i:Int)+1) (by omega) (by omega),ae i]
   exact av (fun _=>ax ⟨by omega,by omega⟩ (av (fun _=>hr) fun _=>fin i (by omega))) fun _=>by omega
  ·exact av (fun _=>by omega) fun _=>fin _ (Nat.le_refl _)
 unfold eI eI.b
 exact cf (Aj N (by omega) (by omega) hN) (bH (fun _=>ah G.nil) fun _=>af (EZ N hN (by rw[List.length_singleton];omega)) fun _ _=>bH (fun _=>ah G.nil) fun _=>cf (kI N (by omega) hN _) (ok_eq (fun _=>ah G.nil) fun _=>bE (fun _=>ah G.nil) fun _=>cf (vu N (by omega) hN _) (qT (fun _=>ah G.nil) fun _=>ok_eq (fun _=>cf (wQ N (by omega) hN _) (bE (fun _=>ah G.nil) fun _=>hj)) fun _=>hj)))
theorem RY(N:Nat)(hN:200000≤N){l:aD}{m:Nat}(hm:m≤50000)(h:G m (.slice cU) l){id q:Int}(hq:aC q):Ok (fun r=>G m (.slice cU) r.1) (nW N l id q):=by
 have hl:=h.1
 unfold nW nW.b
 refine af (EZ N hN (by omega)) fun _ _=>bH (fun _=>ah G.nil) fun _=>av (fun _=>ah G.nil) fun _=>av (fun _=>ah G.nil) fun _=>cf (vu N (by omega) hN _) (bH (fun _=>ah G.nil) fun _=>aF (by rw[List.length_nil];omega) ?_)
 rw[List.nil_append]
 refine bq (len:=l.length) (F:=fun n i s=>nW.l8 N n id q s i) (fun _ s=>s.length=l.length∧G m (.slice cU) s) ⟨rfl,h⟩ (by omega) (fun n i s hi hI hr=> ?_) (fun n s hI=> ?_)
 all_goals unfold nW.l8 nW.wk
 ·rw[al (x:=(i:Int)+1) (by omega) (by omega),ae i]
  have hs:=hI.1
  have hx:=G.at hI.2 (i:Int).toNat
  exact av (fun _=>ax ⟨by omega,by omega⟩ (ok_eq (fun _=>ax ⟨by omega,by omega⟩ (hr _ ⟨by rw[List.length_set];exact hs,G.set hI.2 (G4q hx hq) _⟩)) fun _=>hr s hI)) fun _=>by omega
 ·have hs:=hI.1
  exact av (fun _=>by omega) fun _=>ah hI.2
theorem RZ(N:Nat)(a b:Int):Ok (fun r=>aC r.1) (Vk N a b):=by
 have h: ∀(x:Int) (t:Bool),0≤x∧x<5→Ok (fun r:Int×Bool=>aC r.1) (some (x,t)):=fun x t hx=>ah (jh hx (by decide))
 unfold Vk
 repeat' first|refine ok_eq (fun _=> ?_) (fun _=> ?_)|exact h _ _ (by decide)
theorem MX(N:Nat)(hN:200000≤N){l:au}{m:Nat}(hm:m≤50000)(h:G m (.slice gC) l)(id k:Int):Ok (fun r=>G m (.slice gC) r.1) (lX N l id k):=by
 have hl:=h.1
 unfold lX lX.b
 refine cf (oV N (by omega) hN) (bH (fun _=>ah G.nil) fun _=>cf (kI N (by omega) hN _) (ok_eq (fun _=>ah G.nil) fun _=>af (RZ N _ _) fun z hz=>bH (fun _=>ah G.nil) fun _=>aF (by rw[List.length_nil];omega) ?_))
 rw[List.nil_append]
 refine bq (len:=l.length) (F:=fun n i s=>lX.Dz N n id z.1 s i) (fun _ s=>s.length=l.length∧G m (.slice gC) s) ⟨rfl,h⟩ (by omega) (fun n i s hi hI hr=> ?_) (fun n s hI=> ?_)
 all_goals unfold lX.Dz lX.A5
 ·rw[al (x:=(i:Int)+1) (by omega) (by omega),ae i]
  have hs:=hI.1
  have hx:=G.at hI.2 (i:Int).toNat
  exact av (fun _=>ax ⟨by omega,by omega⟩ (ok_eq (fun _=>ax ⟨by omega,by omega⟩ (hr _ ⟨by rw[List.length_set];exact hs,G.set hI.2 (G2b hx hz) _⟩)) fun _=>hr s hI)) fun _=>by omega
 ·have hs:=hI.1
  exact av (fun _=>by omega) fun _=>ah hI.2
theorem K5(N:Nat)(hN:200000≤N){a:au}{l:aD}{m:Nat}(hm:m≤50000)(ha:G m (.slice gC) a)(h:G m (.slice cU) l){id to:Int}(hto:aC to):Ok (fun r=>G m (.slice cU) r.1) (nX N a l id to):=by
 have h1:=ha.1
 have hl:=h.1
 unfold nX nX.b
 refine cf (Aj N (by omega) (by omega) hN) (bH (fun _=>ah G.nil) fun _=>cf (vu N (by omega) hN _) (cf (kI N (by omega) hN _) (bH (fun _=>ah G.nil) fun _=>ok_eq (fun _=>ah G.nil) fun _=>bE (fun _=>ah G.nil) fun _=>bE (fun _=>ah G.nil) fun _=>aF (by rw[List.length_nil];omega) ?_)))
 rw[List.nil_append]
 refine bq (len:=l.length) (F:=fun n i s=>nX.lN N n id to s i) (fun _ s=>s.length=l.length∧G m (.slice cU) s) ⟨rfl,h⟩ (by omega) (fun n i s hi hI hr=> ?_) (fun n s hI=> ?_)
 all_goals unfold nX.lN nX.jY
 ·rw[al (x:=(i:Int)+1) (by omega) (by omega),ae i]
  have hs:=hI.1
  have hx:=G.at hI.2 (i:Int).toNat
  exact av (fun _=>ax ⟨by omega,by omega⟩ (ok_eq (fun _=>ax ⟨by omega,by omega⟩ (hr _ ⟨by rw[List.length_set];exact hs,G.set hI.2 (G4b hx hto) _⟩)) fun _=>hr s hI)) fun _=>by omega
 ·have hs:=hI.1
  exact av (fun _=>by omega) fun _=>ah hI.2
theorem R1(N:Nat)(hN:200000≤N){l:aD}{m:Nat}(hm:m≤50000)(h:G m (.slice cU) l)(id:Int):Ok (fun r=>r.length≤m) (nY N l id):=by
 have hl:=h.1
 unfold nY nY.b
 refine af (EZ N hN (by omega)) fun _ _=>bH (fun _=>ah (Nat.zero_le _)) fun _=>bq (len:=l.length) (F:=fun n i s=>nY.l5 N n l id s i) (fun i s=>s.length≤i) (Nat.zero_le _) (by omega) (fun n i s hi hI hr=> ?_) (fun n s hI=> ?_)
 all_goals unfold nY.l5 nY.c0
 ·rw[al (x:=(i:Int)+1) (by omega) (by omega),ae i]
  exact av (fun _=>ax ⟨by omega,by omega⟩ (ok_eq (fun _=>ax ⟨by omega,by omega⟩ (aF (by rw[List.length_singleton];omega) (hr _ (by rw[List.length_append,List.length_singleton];omega)))) fun _=>hr s (by omega))) fun _=>by omega
 ·exact av (fun _=>by omega) fun _=>ah (by omega)
abbrev L6(m:Nat)(l:aT):Prop:=G m (.slice jg) l
theorem R2(N:Nat)(hN:200000≤N){l:aT}{a:List Int}{m:Nat}(hm:m≤50000)(h:L6 m l)(ha:a.length≤m):Ok (fun r=>L6 m r) (fb N l a):=by
 have hl:=h.1
 unfold fb fb.b
 refine cf (kH N (by omega) hN) (bH (fun _=>ah G.nil) fun _=>bq (len:=l.length) (F:=fun n i s=>fb.l5 N n l a s i) (fun i s=>L6 i s) G.nil (by omega) (fun n i s hi hI hr=> ?_) (fun n s hI=> ?_))
 all_goals unfold fb.l5 fb.c0
 ·have hs:=hI.1
  refine av (fun _=> ?_) fun _=>by omega
  refine bq (len:=a.length) (F:=fun n' j b=>fb.l9 N (fb.l5 N n) n' l a s (i:Int) b j) (fun _ _=>True) trivial (by omega) (fun n' j b hj _ dD=> ?_) (fun n' b _=> ?_)
  all_goals unfold fb.l9 fb.tk
  ·rw[al (x:=(j:Int)+1) (by omega) (by omega),ae j]
   exact av (fun _=>qT (fun _=>dD _ trivial) fun _=>ax ⟨by omega,by omega⟩ (ax ⟨by omega,by omega⟩ (dD _ trivial))) fun _=>by omega
  ·rw[al (x:=(i:Int)+1) (by omega) (by omega),ae i]
   have hx:G 0 jg (l.getD (i:Int).toNat dQ):=G.at h _
   exact av (fun _=>by omega) fun _=>bH (fun _=>ax ⟨by omega,by omega⟩ (aF (by rw[List.length_singleton];omega) (hr _ (G.cat hI (G.one hx (Nat.le_refl 1)))))) fun _=>hr s (G.mono (by omega) hI)
 ·exact av (fun _=>by omega) fun _=>ah (G.mono hl hI)
theorem HX(N:Nat)(hN:5000000≤N)(c:aa){b:ag}{m:Nat}(hm:m≤50000)(hb:G m az b)(id:Int):Ok (fun r=>G m az r.1) (OT N c b id):=by
 unfold OT
 exact cf (dP N hN hm hb) (bH (fun _=>ah G.fp) fun _=>af (ni N (by omega) hm hb.1 _) fun _ _=>ok_eq (fun _=>ah G.fp) fun _=>af (R1 N (by omega) hm hb.2.1 _) fun a ha=>af (R2 N (by omega) hm hb.2.2.2.2.2.1 ha) fun r hr=>ah ⟨hb.1,hb.2.1,hb.2.2.1,hb.2.2.2.1,hb.2.2.2.2.1,hr,trivial⟩)
theorem HY(N:Nat)(hN:200000≤N){l:aD}{m:Nat}(hm:m≤50000)(h:G m (.slice cU) l)(id:Int):Ok (fun r=>G m (.slice cU) r) (mv N l id):=by
 have hl:=h.1
 unfold mv mv.b
 refine cf (sj N (by omega) hN) (bH (fun _=>ah G.nil) fun _=>bq (len:=l.length) (F:=fun n i s=>mv.l5 N n l id s i) (fun i s=>G i (.slice cU) s) G.nil (by omega) (fun n i s hi hI hr=> ?_) (fun n s hI=> ?_))
 all_goals unfold mv.l5 mv.c0
 ·have hs:=hI.1
  have hx:G 0 cU (l.getD (i:Int).toNat aJ):=G.at h _
  rw[al (x:=(i:Int)+1) (by omega) (by omega),ae i]
  exact av (fun _=>ax ⟨by omega,by omega⟩ (bE (fun _=>ax ⟨by omega,by omega⟩ (aF (by rw[List.length_singleton];omega) (hr _ (G.cat hI (G.one hx (Nat.le_refl 1)))))) fun _=>hr s (G.mono (by omega) hI))) fun _=>by omega
 ·exact av (fun _=>by omega) fun _=>ah (G.mono hl hI)
theorem OU(N:Nat)(hN:200000≤N){l:aT}{m:Nat}(hm:m≤50000)(h:L6 m l)(a id:Int):Ok (fun r=>L6 m r.1) (nZ N l a id):=by
 have hl:=h.1
 unfold nZ nZ.b
 refine cf (kH N (by omega) hN) (bH (fun _=>ah G.nil) fun _=>bq (len:=l.length) (F:=fun n i s=>nZ.l5 N n l a id s i) (fun i s=>L6 i s) G.nil (by omega) (fun n i s hi hI hr=> ?_) (fun n s hI=> ?_))
 all_goals unfold nZ.l5 nZ.c0
 ·have hs:=hI.1
  have hx:G 0 jg (l.getD (i:Int).toNat dQ):=G.at h _
  rw[al (x:=(i:Int)+1) (by omega) (by omega),ae i]
  have h1:=hr s (G.mono (by omega) hI)
  have h2:=hr _ (G.cat hI (G.one hx (Nat.le_refl 1)))
  repeat' first|exact h1|exact h2|refine aF (by rw[List.length_singleton];omega) ?_|refine ax ⟨by omega,by omega⟩ ?_|refine av (fun _=> ?_) (fun _=> ?_)|refine bE (fun _=> ?_) (fun _=> ?_)|(exfalso;omega)
 ·exact av (fun _=>by omega) fun _=>ok_eq (fun _=>ah G.nil) fun _=>ah (G.mono hl hI)
end VM
end
section
namespace VM
open Go VM.F
theorem G6q{m:Nat}{x:cq}{q:Int}(h:G m jg x)(hq:aC q):G m jg (x.1,(x.2.1,(x.2.2.1,(x.2.2.2.1,(q,x.2.2.2.2.2))))):=⟨h.1,h.2.1,h.2.2.1,h.2.2.2.1,hq,h.2.2.2.2.2⟩
theorem Vl(N:Nat)(hN:200000≤N){l:aT}{m:Nat}(hm:m≤50000)(h:L6 m l)(a d:Int):Ok (fun r=>L6 m r) (dn N l a d):=by
 have hl:=h.1
 unfold dn dn.b
 refine cf (kH N (by omega) hN) (bH (fun _=>ah G.nil) fun _=>bq (len:=l.length) (F:=fun n i s=>dn.l5 N n l a d s i) (fun i s=>L6 i s) G.nil (by omega) (fun n i s hi hI hr=> ?_) (fun n s hI=> ?_))
 all_goals unfold dn.l5 dn.c0
 ·have hs:=hI.1
  have hx:G 0 jg (l.getD (i:Int).toNat dQ):=G.at h _
  have fin: ∀k:Nat,k≤s.length→Ok (fun r=>L6 m r) (dn.JO N (dn.l5 N n) l a d s (i:Int) (k:Int)):=fun k hk=>by
   unfold dn.JO dn.A7
   rw[al (x:=(i:Int)+1) (by omega) (by omega),ae i]
   dsimp only
   have t: ∀a b:Nat,(List.drop a (List.take b s)).length≤s.length:=fun a b=>by rw[List.length_drop,List.length_take];omega
   have t1:=t (0:Int).toNat (k:Int).toNat
   have t2:=t (k:Int).toNat (s.length:Int).toNat
   refine EV ⟨by omega,by omega,by omega,by omega⟩ (aF (by omega) (ax ⟨by omega,by omega⟩ (aF (by rw[List.length_singleton];omega) (EV ⟨by omega,by omega,by omega,by omega⟩ (aF (by rw[List.length_append,List.length_singleton];omega) (hr _ ?_))))))
   simpa using G.ins hI (G.mono (Nat.zero_le i) hx) k 0 k (Nat.le_refl _)
  have h1:=hr s (G.mono (by omega) hI)
  have hw:Ok (fun r=>L6 m r) (dn.l9 N (dn.l5 N n) N l a d s (i:Int) 0):=by
   refine ka (len:=s.length) (F:=fun n' j=>dn.l9 N (dn.l5 N n) n' l a d s (i:Int) j) (by omega) (fun n' j hj dD=> ?_) (fun n'=> ?_)
   all_goals unfold dn.l9 dn.tk
   ·rw[al (x:=(j:Int)+1) (by omega) (by omega),ae j]
    have hah: ∀x y:cq,Ok (fun _=>True) (Vm N x y):=fun x y=>by unfold Vm;exact bE (fun _=>dw) fun _=>dw
    exact av (fun _=>ax ⟨by omega,by omega⟩ (ax ⟨by omega,by omega⟩ (af (hah _ _) fun _ _=>qT (fun _=>dD) fun _=>fin j (by omega)))) fun _=>by omega
   ·exact av (fun _=>by omega) fun _=>fin _ (Nat.le_refl _)
  rw[al (x:=(i:Int)+1) (by omega) (by omega),ae i]
  repeat' first|exact h1|exact hw|refine ax ⟨by omega,by omega⟩ ?_|refine av (fun _=> ?_) (fun _=> ?_)|refine bE (fun _=> ?_) (fun _=> ?_)|(exfalso;omega)
 ·exact av (fun _=>by omega) fun _=>ah (G.mono hl hI)
theorem R3(N:Nat)(hN:200000≤N){l:aT}{o:cq}{m:Nat}(hm:m≤50000)(h:L6 m l)(ho:G 0 jg o):Ok (fun r=>L6 m r.1∧aC r.2.2.1) (bX N l o):=by
 have hl:=h.1
 have fin: ∀(s:aT) (q:Int) (t:aX),L6 m s→aC q→Ok (fun r=>L6 m r.1∧aC r.2.2.1) (bX.j22 N s q t):=fun s q t hs hq=>by
  have hsl:=hs.1
  unfold bX.j22 bX.acB
  refine bq (len:=s.length) (F:=fun n i u=>bX.y5 N n s q t u i) (fun i u=>L6 i u) G.nil (by omega) (fun n i u hi hI hr=> ?_) (fun n u hI=> ?_)
  all_goals unfold bX.y5 bX.z5
  ·have hu:=hI.1
   have hx:G 0 jg (s.getD (i:Int).toNat dQ):=G.at hs _
   rw[al (x:=(i:Int)+1) (by omega) (by omega),ae i]
   have h1:=hr u (G.mono (by omega) hI)
   have h2:=hr _ (G.cat hI (G.one hx (Nat.le_refl 1)))
   repeat' first|exact h1|exact h2|refine aF (by rw[List.length_singleton];omega) ?_|refine ax ⟨by omega,by omega⟩ ?_|refine av (fun _=> ?_) (fun _=> ?_)|(exfalso;omega)
  ·exact av (fun _=>by omega) fun _=>ah ⟨G.mono hsl hI,hq⟩
 have ei:Ok (fun r:aT×aX×Int×Int=>L6 m r.1∧aC r.2.2.1) (some ([],[],(0:Int),(1:Int))):=ah ⟨G.nil,aV⟩
 unfold bX bX.b
 refine cf (kH N (by omega) hN) (bH (fun _=>ei) fun _=>cf (zb N o) (bH (fun _=>ei) fun _=>aF (by rw[List.length_nil];omega) (af (Vl N hN hm h _ _) fun w hw=> ?_)))
 have hwl:=hw.1
 rw[List.nil_append]
 refine bq (len:=w.length) (F:=fun n i (s:aT×Int×aX)=>bX.l7 N n o s.1 s.2.1 s.2.2 w i) (s:=(_,(_,_))) (fun i s=>L6 m s.1∧aC s.2.1∧s.2.2.length≤i) ⟨h,ho.2.2.2.2.1,Nat.zero_le _⟩ (by omega) (fun n i s hi hI hr=> ?_) (fun n s hI=> ?_)
 all_goals unfold bX.l7 bX.oT
 ·obtain⟨hs,hq,ht⟩:=hI
  have f1:=fin s.1 s.2.1 s.2.2 hs hq
  have anE: ∀(v:Int) (t:fZ),Ok (fun r=>L6 m r.1∧aC r.2.2.1) (bX.rA N (bX.l7 N n) o s.1 s.2.1 s.2.2 w (i:Int) v t):=fun v t=>by
   unfold bX.rA bX.mu
   refine aF (by rw[List.length_singleton];omega) (bq (len:=s.1.length) (F:=fun n' j u=>bX.DB N (bX.l7 N n) n' o u (W .i64 (s.2.1-v)) (s.2.2++[t]) w (i:Int) v j) (fun _ u=>u.length=s.1.length∧L6 m u) ⟨rfl,hs⟩ (by have:=hs.1;omega) (fun n' j u hj hJ dD=> ?_) (fun n' u hJ=> ?_))
   all_goals unfold bX.DB bX.A8
   ·have hsl:=hs.1
    have hul:=hJ.1
    rw[al (x:=(j:Int)+1) (by omega) (by omega),ae j]
    exact av (fun _=>ax ⟨by omega,by omega⟩ (ax ⟨by omega,by omega⟩ (ok_eq (fun _=>ax ⟨by omega,by omega⟩ (ax ⟨by omega,by omega⟩ (dD _ ⟨by rw[List.length_set];exact hul,G.set hJ.2 (G6q (G.at hJ.2 _) (dY _)) _⟩))) fun _=>dD u hJ))) fun _=>by omega
   ·have hul:=hJ.1
    rw[al (x:=(i:Int)+1) (by omega) (by omega),ae i]
    exact av (fun _=>by omega) fun _=>hr (_,(_,_)) ⟨hJ.2,dY _,by dsimp only;rw[List.length_append,List.length_singleton];omega⟩
  have Vn:Ok (fun r=>L6 m r.1∧aC r.2.2.1) (bX.R4 N (bX.l7 N n) o s.1 s.2.1 s.2.2 w (i:Int)):=by
   unfold bX.R4 bX.K6
   rw[al (x:=(i:Int)+1) (by omega) (by omega),ae i]
   dsimp only
   have h1:=hr s ⟨hs,hq,by omega⟩
   repeat' first|exact h1|exact anE _ _|refine ax ⟨by omega,by omega⟩ ?_|refine ok_eq (fun _=> ?_) (fun _=> ?_)
  repeat' first|exact f1|exact Vn|refine ax ⟨by omega,by omega⟩ ?_|refine av (fun _=> ?_) (fun _=> ?_)|refine ok_eq (fun _=> ?_) (fun _=> ?_)|(exfalso;omega)
 ·exact av (fun _=>by omega) fun _=>fin _ _ _ hI.1 hI.2.1
theorem R5(N:Nat)(hN:5000000≤N){c:aa}{b:ag}{o:cq}{m:Nat}(h2:200≤m)(hm:m≤40000)(hc:G m aq c)(hb:G m az b)(ho:G 0 jg o):Ok (fun r=>G (m+1) az r.1) (jE N c b o):=by
 have yx:=hb.2.2.2.2.2.1.1
 have ei: ∀(t:aX) (e:Int),Ok (fun r:ag×aX×Int×Int=>G (m+1) az r.1) (some ((bF,(cc,(aY,(aY,(cv,(cF,())))))),(t,((0:Int),e)))):=fun t e=>ah (G.zero (m+1) az)
 have Vn: ∀(r:aT) (t:aX) (q:Int),L6 m r→aC q→Ok (fun r=>G (m+1) az r.1) (jE.R4 N c b o (bF,(cc,(aY,(aY,(cv,(cF,())))))) r t q):=fun r t q hr hq=>by
  have JB:=hr.1
  unfold jE.R4 jE.K6
  have hx:G 0 jg (o.1,(o.2.1,(o.2.2.1,(o.2.2.2.1,(q,o.2.2.2.2.2))))):=G6q ho hq
  exact af (Dy N hN c h2 (by omega) hb) fun z hz=>bE (fun _=>ei _ _) fun _=>by
   have yZ:G (m+1) az z.1:=G.mono (by omega) hz
   exact av (fun _=>aF (by rw[List.length_singleton];omega) (ah ⟨yZ.1,yZ.2.1,yZ.2.2.1,yZ.2.2.2.1,yZ.2.2.2.2.1,G.cat hr (G.one hx (Nat.le_refl 1)),trivial⟩)) fun _=>ah ⟨yZ.1,yZ.2.1,yZ.2.2.1,yZ.2.2.2.1,yZ.2.2.2.2.1,G.mono (by omega) hr,trivial⟩
 have hj7:Ok (fun r=>G (m+1) az r.1) (jE.j7 N c b o (bF,(cc,(aY,(aY,(cv,(cF,()))))))):=by
  unfold jE.j7 jE.Kh
  exact af (R3 N (by omega) (by omega) hb.2.2.2.2.2.1 ho) fun z hz=>av (fun _=>ok_eq (fun _=>ei _ _) fun _=>Vn _ _ _ hz.1 hz.2) fun _=>Vn _ _ _ hz.1 hz.2
 unfold jE jE.b
 refine af (HR N hN h2 hm hc hb (G.mono (Nat.zero_le m) ho)) fun e _=>bE (fun _=>ei _ _) fun _=>av (fun h0=> ?_) fun _=>hj7
 dsimp only
 exact ax (by rw[al (by omega) (by omega)];omega) (dv (fun _=>ei _ _) fun _=>hj7)
end VM
end
