/- A part of the proof of LotEven of layer 23: what the functions compute, in plain words. -/
import Derived.Test.YthnjnpjmbabcaaaGreatPlain7
import Derived.Test.YthnjnpjmbabcaaaGreatPlain4
set_option linter.all false
section
namespace VM
open Go VM.F
variable(N:Nat)
def PB(m:aB)(a:aO)(p:bJ):Prop:=
 ∃e:aC,p=e.map jU∧QQ e∧(∀x∈e,df x.1 x.2.1∧jE m a x.1 x.2.1)∧(e.map gJ).sum=0
def SB(c:ae)(a:aO)(s:aC):Prop:=gF s∧(∀x∈s,cE x.1 x.2.1∧yY c a x.1 x.2.1)∧ ∀i:Int,(dS i s).sum=0
theorem PB.nil{m:aB}{a:aO}:PB m a []:=⟨[],rfl,λx hx=>(nomatch hx),λx hx=>(nomatch hx),rfl⟩
theorem PB.app{m:aB}{a:aO}{p q:bJ}(hp:PB m a p)(hq:PB m a q):PB m a (p++q):=by
 obtain⟨e,rfl,e1,e2,e3⟩:=hp
 obtain⟨f,rfl,f1,f2,f3⟩:=hq
 refine⟨e++f,dL.symm,λx hx=>(bf.1 hx).elim (e1 x) (f1 x),λx hx=>(bf.1 hx).elim (e2 x) (f2 x),?_⟩
 rw[dL,lI,e3,f3];rfl
theorem Hy(i:Int): ∀s t:aC,dS i (s++t)=dS i s++dS i t
 |[],t=>rfl
 |x::s,t=>by
  rw[mh,ef,ef,Hy i s t]
  split<;>rfl
theorem SB.nil{c:ae}{a:aO}:SB c a []:=⟨λx hx=>(nomatch hx),λx hx=>(nomatch hx),λ_=>rfl⟩
theorem SB.app{c:ae}{a:aO}{s t:aC}(hs:SB c a s)(ht:SB c a t):SB c a (s++t):=
 ⟨λx hx=>(bf.1 hx).elim (hs.1 x) (ht.1 x),λx hx=>(bf.1 hx).elim (hs.2.1 x) (ht.2.1 x),λi=>by rw[Hy,lI,hs.2.2,ht.2.2];rfl⟩
theorem SB.two{c:ae}{a:aO}{x y i q r:Int}(hq:aG q)(hr:aG r)(e:q+r=0)(hx:cE x i∧yY c a x i)(hy:cE y i∧yY c a y i):SB c a [(x,(i,(q,()))),(y,(i,(r,())))]:=by
 refine⟨λz hz=> ?_,λz hz=> ?_,λj=> ?_⟩
 ·rcases bm.1 hz with rfl|hz
  ·exact hq
  ·rw[cg.1 hz];exact hr
 ·rcases bm.1 hz with rfl|hz
  ·exact hx
  ·rw[cg.1 hz];exact hy
 ·rw[ef,ef]
  by_cases h:i=j
  ·rw[ak h,ak h]
   show q+(r+0)=0
   omega
  ·rw[ah h,ah h];rfl
theorem PB.two{m:aB}{a:aO}{k n k' n' v w:Int}(hv:c7 v)(hw:c7 w)(e:v+w=0)(h1:df k n∧jE m a k n)(h2:df k' n'∧jE m a k' n'):PB m a [(k,(n,(c5 v,()))),(k',(n',(c5 w,())))]:=by
 refine⟨[(k,(n,(v,()))),(k',(n',(w,())))],rfl,λz hz=> ?_,λz hz=> ?_,?_⟩
 ·rcases bm.1 hz with rfl|hz
  ·exact hv
  ·rw[cg.1 hz];exact hw
 ·rcases bm.1 hz with rfl|hz
  ·exact h1
  ·rw[cg.1 hz];exact h2
 ·show v+(w+0)=0
  omega
abbrev J8(c:ae)(b:aq)(r:aq×Int):Prop:=r.2=0→RBs c b r.1
theorem J8.bad{c:ae}{b b':aq}{e:Int}(h:e≠0):Ok (J8 c b) (some (b',e)):=an λh'=>absurd h' h
theorem Yi(hN:4000000≤N){b:aq}{s e:aC}(w:ow b)(hr:fx b.2.2.1=true)(hs:dq b.2.2.2.1=true)(lr:b.2.2.1.length≤90000)(ls:b.2.2.2.1.length≤90000)(qs:gF s)(lns:s.length≤100000)(qe:QQ e)(lne:e.length≤100000):
  Bu N b s (e.map jU)=some (oT b s e):=by
 unfold Bu oT
 rw[QP N hN hs ls w.qs qs lns,aaE N hN hr lr w.qr qe lne]
 unfold xr
 rw[aw,aw]
 cases jo Fq (fS b.2.2.2.1 s) oy with
 |none=>rfl
 |some s'=>
  cases jo aG (fS b.2.2.1 e) s6 with
  |none=>rfl
  |some r'=>rfl
theorem tg(hN:4000000≤N){c:ae}{b:aq}{s:aC}{p:bJ}{m:Nat}(hm:m≤50000)(hb:G m aL b)(h:RB c b)(hs:SB c b.2.1 s)(hp:PB b.1 b.2.1 p)(ls:s.length≤50000)(lp:p.length≤50000):Ok (J8 c b) (Bu N b s p):=by
 obtain⟨e,rfl,e1,e2,e3⟩:=hp
 obtain⟨hr,CY⟩:=gl (oF.2 h)
 have w:=G.wf hm hb
 rw[fE]at lp
 exact nK (Yi N hN w.w hr CY w.r w.s hs.1 ω e1 ω) λh0=>h.oT hs.2.1 hs.2.2 e2 e3 h0
theorem oW{v:Int}(h:aG v):c7 v∧c7 (-v):=by unfold aG at h;unfold c7;omega
theorem th(hN:4000000≤N){m:aB}{a:aO}{k n k' n' v:Int}(hv:c7 v∧c7 (-v))(h1:df k n∧jE m a k n)(h2:df k' n'∧jE m a k' n'):Ok (λr=>PB m a r∧r.length=2) (Cu N k n k' n' (c5 v)):=by
 unfold Cu
 exact bH (oq N hN (ET hv.1)) (an ⟨PB.two hv.2 hv.1 ω h1 h2,rfl⟩)
theorem uM{c:ae}{b:aq}(h:RB c b){k:Int}(hk:qG b.2.1 k):df 5 k∧jE b.1 b.2.1 5 k:=by
 obtain⟨y,hy,e⟩:=hk
 have hk:=(pJ.1 h.a).1 y hy
 have e':y.1=k:=e
 exact⟨.inr (.inl ⟨rfl,e'▸hk.1⟩),λ_=>⟨y,hy,e⟩,λh=>absurd h δ⟩
theorem CC{m:aB}{a:aO}{k:Int}(h:1≤k∧k≤4):df k 0∧jE m a k 0:=
 ⟨.inl ⟨h.1,h.2,rfl⟩,λe=>by unfold du at e;omega,λe=>by unfold du at e;omega⟩
theorem BA{c:ae}{b:aq}(h:RB c b){k n:Int}(hk:6≤k∧k≤7)(hn:jw b.1 n):df k n∧jE b.1 b.2.1 k n:=by
 obtain⟨y,hy,e⟩:=hn
 have hm:=(gn.1 h.m).1 y hy
 have e':y.1=n:=e
 exact⟨.inr (.inr ⟨hk.1,hk.2,e'▸hm.1,e'▸hm.2.1⟩),λe=>by unfold du at e;omega,λ_=>⟨y,hy,e⟩⟩
theorem Ly{m:aB}{a:aO}{k:Int}(h:du k 0∨qG a k)(hk:0≤k∧k≤24)(x:Int):df (Bk k x).1 (Bk k x).2.1∧jE m a (Bk k x).1 (Bk k x).2.1:=by
 unfold Bk
 by_cases e:k=0
 ·rw[ak e]
  exact⟨show df 2 0 by decide,λh=>absurd h (show ¬du 2 5 by decide),λh=>absurd h (show ¬(du 2 6∨du 2 7)by decide)⟩
 ·rw[ah e]
  refine⟨show df 5 k by unfold df;omega,λ_=>h.elim (λh=>absurd h e) id,λh=>absurd h (show ¬(du 5 6∨du 5 7)by decide)⟩
theorem OP{c:ae}{b:aq}(h:RB c b){k:Int}(ht:((fX b.2.1 k).2||decide (du k 0))=true):du k 0∨qG b.2.1 k:=by
 rcases Bool.or_eq_true_iff.1 ht with ht|ht
 ·exact .inr ((pK h.a k).1 ht)
 ·exact .inl (bl ht)
theorem IY(hN:4000000≤N){m:aB}{a:aO}{t:tB}{p:Int}(ht:nH t)(hp:jr p)(h1:du t.1 0∨qG a t.1)(h2:du t.2.1 0∨qG a t.2.1):Ok (λr=>PB m a r.1∧r.1.length≤2) (QT N t p):=by
 refine nK (IM N hN ht hp) ?_
 have ht':=ht
 unfold nH kL at ht'
 have hk:c7 ((p-t.2.2.2.2.1)*t.2.2.2.1)∧c7 (-((p-t.2.2.2.2.1)*t.2.2.2.1)):=by
  have hq:=ht'.2.2.2.2.1
  have he:=ht'.2.2.2.2.2
  generalize t.2.2.2.2.1=e at*
  generalize t.2.2.2.1=q at*
  unfold jr at hp he
  have:=JF (d:=p-e) ω hq
  unfold c7;omega
 unfold QS
 dsimp only
 split
 ·exact⟨PB.nil,bA _⟩
 ·refine⟨⟨_,rfl,λx hx=> ?_,λx hx=> ?_,?_⟩,aI 2⟩
  ·rcases bm.1 hx with rfl|hx
   ·rw[nI];exact hk.1
   ·rw[cg.1 hx,nI];exact hk.2
  ·rcases bm.1 hx with rfl|hx
   ·exact Ly h1 ht'.1 _
   ·rw[cg.1 hx];exact Ly h2 ht'.2.1 _
  ·rw[bZ,bZ,gY,nI,nI,cD,cD,iM];omega
theorem J9(hN:5000000≤N){c:ae}{b:aq}{l:bO}{m:Nat}(hm:m≤50000)(hb:G m aL b)(h:RB c b):Ok (J8 c b) (gw N c b l):=by
 unfold gw gw.b
 refine bH (dD N hN hm hb) (bx (λ_=>J8.bad δ) λhB=>ax (λ_=>J8.bad δ) λhl=> ?_)
 obtain⟨hp,EF⟩:=iu hB
 refine bg (len:=l.length) (F:=λn i (_:Unit)=>gw.l4 N n l c b (bM,(dh,(cf,(cf,(dW,(eu,())))))) i) (s:=()) (λi _=> ∀j,j<i→nH (l.getD j np)) (λj hj=>ω) ω (λn i _ hi hI hr=> ?_) (λn _ hI=> ?_)
 all_goals unfold gw.l4 gw.ew
 ·rw[ay (x:=(i:Int)+1) ω ω,ag i]
  refine ax (λ_=>az ⟨ω,ω⟩ (bH (yd N _) (bx (λ_=>J8.bad δ) λht=>hr () λj hj=> ?_))) λ_=>ω
  by_cases e:j=i
  ·rw[e];exact bl ht
  ·exact hI j ω
 ·refine ax (λ_=>ω) λ_=> ?_
  have wf:=G.wf hm hb
  refine bg (len:=l.length) (F:=λn i (s:aC×bJ)=>gw.Co N n l c b (bM,(dh,(cf,(cf,(dW,(eu,())))))) s.1 s.2 i) (s:=(_,_)) (λi s=>(SB c b.2.1 s.1∧s.1.length≤2*i)∧PB b.1 b.2.1 s.2∧s.2.length≤2*i) ⟨⟨SB.nil,bA _⟩,PB.nil,bA _⟩ ω (λn i s hi hJ hr=> ?_) (λn s hJ=> ?_)
  all_goals unfold gw.Co gw.zr
  all_goals obtain⟨⟨j1,j2⟩,j3,j4⟩:=hJ
  ·have ht0:=hI i hi
   have ht:=ht0
   unfold nH kL at ht
   dsimp only
   rw[ay (x:=(i:Int)+1) ω ω,ag i,aF]
   generalize l.getD i np=t at*
   refine ax (λ_=>az ⟨ω,ω⟩ (bH (uv N b wf.w.a ω _) (bx (λ_=>J8.bad δ) λt1=>bH (uv N b wf.w.a ω _) (bx (λ_=>J8.bad δ) λt2=>et (λ_=>J8.bad δ) λdU=>aE ?_ (az ⟨ht.2.2.2.1.1,by rw[hp];exact dU⟩ ?_))))) λ_=>ω
   ·rw[aU,aJ];omega
   have i1:=OP h t1
   have i2:=OP h t2
   have pr:jr (b.2.2.2.2.1.getD t.2.2.1.toNat 0):=by
    unfold eY at EF
    have hk:t.2.2.1.toNat<b.2.2.2.2.1.length:=by
     rw[hp]
     have g: ∀x:Int,0≤x→x<(c.1.length:Int)→x.toNat<c.1.length:=λx h1 h2=>ω
     exact g _ ht.2.2.2.1.1 dU
    exact(bl EF) _ hk
   refine af (IY N ω ht0 pr i1 i2) λr ⟨xe,xQ⟩=>aE ω (hr (_,_) ⟨⟨?_,?_⟩,PB.app j3 xe,?_⟩)
   ·refine SB.app j1 ?_
    have hq:aG t.2.2.2.1∧aG (0-t.2.2.2.1)∧W .i64 (0-t.2.2.2.1)=0-t.2.2.2.1:=by
     have hq:=ht.2.2.2.2.1
     generalize t.2.2.2.1=q at*
     exact⟨by unfold aG;omega,by unfold aG;omega,ay ω ω⟩
    rw[hq.2.2]
    have pl: ∀x:Int,0≤x∧x≤24→cE x t.2.2.1:=λx hx=>⟨hx.1,hx.2,ht.2.2.2.1.1,ht.2.2.2.1.2⟩
    exact SB.two hq.1 hq.2.1 ω ⟨pl _ ht.1,i1,dU⟩ ⟨pl _ ht.2.1,i2,dU⟩
   ·dsimp only;rw[List.length_append,List.length_cons,List.length_singleton];omega
   ·dsimp only;rw[List.length_append];omega
  ·exact ax (λ_=>ω) λ_=>af (tg N ω hm hb h j1 j3 ω ω) λr h=>an h
theorem abv(hN:5000000≤N){c:ae}{b:aq}{h:cv}{a q p:Int}{m:Nat}(h2:200≤m)(hm:m≤40000)(hc:G m aA c)(hb:G m aL b)(hR:RB c b)(hh:G m eD h)(ha:aG a)(hq:aG q)(hp:aG p):Ok (λr=>r.2.2=0→RB c r.1∧r.2.1.2.1=h.2.1∧Xi r.2.1.2.2.2.1 1000000000) (p5 N c b h a q p):=by
 have ho:G m m9 (h.1,(a,(h.2.1,(W .i64 (3-h.2.2.1),(q,(p,())))))):=⟨hh.1,ha,hh.2.1,gH _,hq,hp,trivial⟩
 have dE: ∀e:Int,e≠0→Ok (λr:aq×cv×Int=>r.2.2=0→RB c r.1∧r.2.1.2.1=h.2.1∧Xi r.2.1.2.2.2.1 1000000000) (some ((bM,(dh,(cf,(cf,(dW,(eu,())))))),(aQ,e))):=λe h=>an λh'=>absurd h' h
 unfold p5 p5.b
 have hj:Bs h→1≤q→ ¬n0 h.2.2.2.1 q→ ∀t:tB,Ok (λr=>r.2.2=0→RB c r.1∧r.2.1.2.1=h.2.1∧Xi r.2.1.2.2.2.1 1000000000) (p5.j14 N q c b h (bM,(dh,(cf,(cf,(dW,(eu,())))))) aQ t):=λhk q1 q2 t=>by
  have g: ∀x:Int,qIn x→ ¬n0 x q→Xi (W .i64 (x-q)) 1000000000:=λx h1 h2=>by unfold qIn at h1;unfold n0 at h2;unfold Xi;rw[ay ω ω];omega
  unfold p5.j14 p5.aaW
  exact af (J9 N hN ω hb hR) λr hr=>bz (λh=>dE _ h) λh0=>an λ_=>⟨(hr h0).1,rfl,g _ hk.2.2.2 q2⟩
 have b1:=dE 1 δ
 exact bH (dD N hN ω hb) (bx (λ_=>b1) λ_=>bH (xA N h) (bx (λ_=>b1) λhk=>ax (λ_=>b1) λq1=>ax (λ_=>b1) λ_=>ax (λ_=>b1) λ_=>ax (λ_=>b1) λ_=>ax (λ_=>dE _ δ) λq2=>ax (λ_=>b1) λ_=>ax (λ_=>b1) λ_=>af (Bv N hN h2 hm hc hb ho) λe _=>bz (λh=>dE _ h) λ_=>ok_eq (λ_=>hj (bl hk) q1 (Ak.2 q2) _) λ_=>hj (bl hk) q1 (Ak.2 q2) _))
theorem OQ(hN:5000000≤N){c:ae}{b:aq}{m:Nat}(h2:200≤m)(hm:m≤40000)(hc:G m aA c)(hb:G m aL b)(hR:RB c b){a:Int}(ha:aG a){q:Int}(hq:aG q):Ok (J8 c b) (UG N c b a q):=by
 have b1: ∀e:Int,e≠0→Ok (J8 c b) (some ((bM,(dh,(cf,(cf,(dW,(eu,())))))),e)):=λe h=>J8.bad h
 unfold UG
 refine bH (dD N hN ω hb) (bx (λ_=>b1 _ δ) λ_=>ax (λ_=>b1 _ δ) λ_=>af (Hb N ω ω hb.2.1 _) λx ⟨_,hxf⟩=>bx (λ_=>b1 _ δ) λhf=>af (oC N ω ω hb.1 _) λ_ _=>bz (λ_=>b1 _ δ) λ_=>af (mK N ω ω hb.2.2.1 _ _) λg hg=>af (br N ω hg) λx hx=>af (br N ω hq) λy hy=>af (yg N ω ω hx hy) λz hz=>af (Ha N ω h2 hm hc hb (bA _) _) λw hw=>af (p4 N ω ω ω hz hw) λ_ _=>ax (λ_=>b1 _ δ) λ_=>bH (dp N ω hq.1 hq.2) ?_)
 rw[hxf]at hf
 exact af (th N ω (oW hq) (uM hR ((pK hR.a a).1 hf)) (CC δ)) λp ⟨hp,C2⟩=>af (tg N ω ω hb hR SB.nil hp (bA _) ω) λr hr=>an hr
def DN(i d:Int)(l:aC):aC:=(l.filter λx=>decide (du x.2.1 i∧ ¬du d 0)).map λx=>Bk x.1 (gJ x*d)
theorem Rp{l:aC}{i d:Int}{k:Nat}(hk:k<l.length):DN i d (l.take (k+1))=DN i d (l.take k)++if du (l.getD k bW).2.1 i∧ ¬du d 0 then [Bk (l.getD k bW).1 (gJ (l.getD k bW)*d)]else []:=by
 have e2:l.take (k+1)=l.take k++[l[k]]:=(wA hk).symm
 unfold DN
 rw[e2,List.filter_append,dL,iL hk]
 congr 1
 by_cases h:du l[k].2.1 i∧ ¬du d 0
 ·rw[ak h,tM,ak (bq h)];rfl
 ·rw[ah h,tM,ah (by rw[bK h];exact qY)];rfl
theorem Ka{i d:Int}: ∀l:aC,((DN i d l).map gJ).sum=(dS i l).sum*d
 |[]=>(wN d).symm
 |x::t=>by
  have ih:=Ka (i:=i) (d:=d) t
  unfold DN at ih ⊢
  rw[ef]
  by_cases h:x.2.1=i
  ·rw[ak h]
   by_cases h0:d=0
   ·rw[tM,ah (by rw[bK (λh=>h.2 h0)];exact qY),ih,h0,Ae,Ae]
   ·rw[tM,ak (bq ⟨h,h0⟩),bZ,bZ,cD,cD,ih,iN,nI]
  ·rw[ah h,tM,ah (by rw[bK (λk=>h k.1)];exact qY),ih]
theorem abw{q d:Int}(hq:aG q)(hd: -1000000000000≤d∧d≤1000000000000):c7 (q*d):=by
 have h1:(q*d).natAbs≤9223372036854775808*1000000000000:=by
  rw[Int.natAbs_mul]
  unfold aG at hq
  exact wM ω ω
 unfold c7;omega
theorem Yj(hN:4000000≤N){c:ae}{b:aq}{m:Nat}(hm:m≤50000)(hb:G m aL b)(hR:RB c b){i:Int}(hi0:0≤i∧i<6)(x y:Int):Ok (λr=>PB b.1 b.2.1 r.1∧r.1.length≤50000) (nO N b.2.2.2.1 i x y):=by
 have h:=hb.2.2.2.1
 have hl:=h.1
 have hs:=(gl (oF.2 hR)).2
 have fl:(dS i b.2.2.2.1).sum=0:=by
  have:=hR.s
  unfold ov at this
  have:=bl (cL.1 this).1 i.toNat (by unfold rT;omega)
  unfold tz du s4 at this
  rw[ak hs,nf hi0.1]at this
  exact this
 have hp:=(fK hs).2
 unfold nO nO.b
 have nil: ∀e:Int,Ok (λr:bJ×Int=>PB b.1 b.2.1 r.1∧r.1.length≤50000) (some ([],e)):=λe=>an ⟨PB.nil,bA _⟩
 refine bH (mR N ω ω) (bx (λ_=>nil _) λ_=>bH (iW N _) (bx (λ_=>nil _) λha=>bH (iW N _) (bx (λ_=>nil _) λdj=> ?_)))
 have ha:=bl ha
 have dj:=bl dj
 refine bH (dp N ω ω ω) (bH (dp N ω ω ω) (bH (vn N hN ((Fit.i64 ω ω).mono ω) ((Fit.i64 ω ω).mono ω)) ?_))
 have d64: -1000000000000≤y-x∧y-x≤1000000000000:=ω
 generalize y-x=d at*
 have fin:PB b.1 b.2.1 ((DN i d b.2.2.2.1).map jU):=by
  refine⟨_,rfl,λz hz=> ?_,λz hz=> ?_,?_⟩
  ·obtain⟨u,hu,rfl⟩:=cQ.1 hz
   rw[nI];exact abw (h.2 u (nh.1 hu).1).2.2.1 d64
  ·obtain⟨u,hu,rfl⟩:=cQ.1 hz
   have hu:=(nh.1 hu).1
   exact Ly (hR.sk u hu).1 ⟨(hp u hu).1.1,(hp u hu).1.2.1⟩ _
  ·rw[Ka,fl,wN]
 refine bg (len:=b.2.2.2.1.length) (F:=λn j s=>nO.l6 N n b.2.2.2.1 i s (c5 d) j) (λj s=>s=(DN i d (b.2.2.2.1.take j)).map jU∧s.length≤j) ⟨rfl,bA _⟩ ω (λn j s hj hI hr=> ?_) (λn s hI=> ?_)
 all_goals unfold nO.l6 nO.vX
 ·obtain⟨i1,i2⟩:=hI
  have st:=Rp (i:=i) (d:=d) hj
  have hx:G m oB (b.2.2.2.1.getD j bW):=h.2 _ (n7 hj)
  rw[ay (x:=(j:Int)+1) ω ω,ag j,aF]
  have skip: ¬(du (b.2.2.2.1.getD j bW).2.1 i∧ ¬du d 0)→s=(DN i d (b.2.2.2.1.take (j+1))).map jU∧s.length≤j+1:=λh=>⟨by rw[st,ah h,cN];exact i1,ω⟩
  refine ax (λ_=>az ⟨ω,ω⟩ (bz (λe=>hr s (skip λk=>e k.1)) λe1=>bH (qx N d) (ok_eq (λe=>hr s (skip λk=>k.2 (nE.1 e))) λe2=>az ⟨ω,ω⟩ (bH (Ch _ (gJ (b.2.2.2.1.getD j bW)*d) N) (az ⟨ω,ω⟩ (bH (dp N ω hx.2.2.1.1 hx.2.2.1.2) (bH (A3 N hN ((Fit.i64 hx.2.2.1.1 hx.2.2.1.2).mono ω) ((Fit.i64 ω ω).mono ω)) (aE (by rw[aJ];omega) (hr _ ⟨?_,by rw[aX,aJ];omega⟩))))))))) λ_=>ω
  rw[st,ak ⟨e1,λk=>e2 (nE.2 k)⟩,dL,i1]
  congr 1
  unfold jU
  rw[bZ,gY,nI];rfl
 ·have i2:=hI.2
  refine ax (λ_=>ω) λ_=>an ⟨?_,by dsimp only;omega⟩
  have:=hI.1
  rw[fD]at this
  rw[this];exact fin
theorem Rq{l:List Int}(h:eY l=true){p:Int}(hp:1≤p∧p≤1000000000000)(k:Nat):eY (l.set k p)=true:=by
 unfold eY at*
 have h:=bl h
 refine bq λj hj=> ?_
 rw[bs]at hj
 have Qq:=h j hj
 unfold qy at*
 rw[aZ,List.getElem?_set]
 split
 ·rw[ak ω];exact hp
 ·rw[←aZ];exact Qq
theorem OR(hN:5000000≤N){c:ae}{b:aq}{m:Nat}(hm:m≤50000)(hb:G m aL b)(hR:RB c b)(i p:Int):Ok (λr=>r.2.2=0→RB c r.1) (UF N c b i p):=by
 have dE: ∀e:Int,e≠0→Ok (λr:aq×bJ×Int=>r.2.2=0→RB c r.1) (some ((bM,(dh,(cf,(cf,(dW,(eu,())))))),([],e))):=λe h=>an λh'=>absurd h' h
 have C2:=hb.2.2.2.2.1.1
 have hci:c.1.length≤6:=by
  have:=hR.c
  unfold eO at this
  exact(bl (cL.1 this).1).2
 unfold UF
 refine bH (dD N hN hm hb) (bx (λ_=>dE _ δ) λhB=>bH (iW N _) (bx (λ_=>dE _ δ) λhp=>ax (λ_=>dE _ δ) λh0=>et (λ_=>dE _ δ) λh1=> ?_))
 obtain⟨Tz,_⟩:=iu hB
 have hp:=bl hp
 dsimp only
 rw[cM]
 refine az ⟨h0,by rw[Tz];exact h1⟩ (af (Yj N ω hm hb hR ⟨h0,ω⟩ _ _) λf ⟨hf,H8⟩=>af (tg N ω hm hb hR SB.nil hf (bA _) H8) λr hr=>bz (λh=>dE _ h) λhz=>aE (by rw[bY];omega) (az ⟨h0,by rw[Tz];exact h1⟩ (an λ_=> ?_)))
 have q:=(hr hz).1
 exact⟨q.c,q.m,q.a,q.ma,q.r,q.t,q.s,q.o,by rw[bs];exact hR.n,q.rk,q.sk,q.ok,Rq hR.p hp _⟩
theorem Hz{l s:bC}(h:dV l=true)(hs:s.Sublist l):dV s=true:=by
 obtain⟨h1,h2,h3⟩:=kM.1 h
 exact kM.2 ⟨λx hx=>h1 x (hs.subset hx),h2.sublist hs,ca hs.length_le h3⟩
theorem HA{α:Type}{l s:List α}{d:α}{i:Nat}(hi:i<l.length)(h:s.Sublist (l.take i)):s.Sublist (l.take (i+1))∧(s++[l.getD i d]).Sublist (l.take (i+1)):=by
 have e2:l.take (i+1)=l.take i++[l[i]]:=(wA hi).symm
 rw[e2,iL hi]
 exact⟨h.trans (List.sublist_append_left ..),h.append (List.Sublist.refl _)⟩
theorem U4(hN:200000≤N){l:bC}(hl:l.length≤50000)(a id:Int):Ok (λr=>r.2=0→dV r.1=true∧ ∀x∈r.1,x∈l) (nN N l a id):=by
 have bad: ∀e:Int,e≠0→Ok (λr:bC×Int=>r.2=0→dV r.1=true∧ ∀x∈r.1,x∈l) (some ([],e)):=λe h=>an λh'=>absurd h' h
 unfold nN nN.b
 refine bH (iq N ω hN) (bx (λ_=>bad _ δ) λhO=>bg (len:=l.length) (F:=λn i s=>nN.l5 N n l a id s i) (λi s=>s.Sublist (l.take i)) (Fv _) ω (λn i s hi hI hr=> ?_) (λn s hI=> ?_))
 all_goals have hs:=hI.length_le
 all_goals rw[bE]at hs
 all_goals unfold nN.l5 nN.e8
 ·rw[ay (x:=(i:Int)+1) ω ω,ag i]
  obtain⟨q1,q2⟩:=HA (d:=fu) hi hI
  have h1:=hr s q1
  have h2:=hr _ q2
  repeat' first|exact h1|exact h2|refine aE (by rw[aJ];omega) ?_|refine az ⟨ω,ω⟩ ?_|refine ax (λ_=> ?_) (λ_=> ?_)|refine bz (λ_=> ?_) (λ_=> ?_)|(exfalso;omega)
 ·rw[fD]at hI
  exact ax (λ_=>ω) λ_=>ok_eq (λ_=>bad _ δ) λ_=>an λ_=>⟨Hz hO hI,λx hx=>hI.subset hx⟩
theorem Yk(hN:200000≤N){l:bC}{a:List Int}{m:Nat}(hm:m≤50000)(hl:l.length≤m)(ha:a.length≤m):Ok (λr=>dV l=true→r.Sublist l) (fQ N l a):=by
 unfold fQ fQ.b
 refine bH (iq N ω hN) (bx (λh=>an λh'=>by rw[h]at h';exact nomatch h') λ_=>bg (len:=l.length) (F:=λn i s=>fQ.l5 N n l a s i) (λi s=>s.Sublist (l.take i)) (Fv _) ω (λn i s hi hI hr=> ?_) (λn s hI=> ?_))
 all_goals have hs:=hI.length_le
 all_goals rw[bE]at hs
 all_goals unfold fQ.l5 fQ.e8
 ·obtain⟨q1,q2⟩:=HA (d:=fu) hi hI
  refine ax (λ_=> ?_) λ_=>ω
  refine bg (len:=a.length) (F:=λn' j b=>fQ.l9 N (fQ.l5 N n) n' l a s (i:Int) b j) (λ_ _=>True) trivial ω (λn' j b hj _ eV=> ?_) (λn' b _=> ?_)
  all_goals unfold fQ.l9 fQ.zA
  ·rw[ay (x:=(j:Int)+1) ω ω,ag j]
   exact ax (λ_=>sb (λ_=>eV _ trivial) λ_=>az ⟨ω,ω⟩ (az ⟨ω,ω⟩ (eV _ trivial))) λ_=>ω
  ·rw[ay (x:=(i:Int)+1) ω ω,ag i]
   exact ax (λ_=>ω) λ_=>bx (λ_=>az ⟨ω,ω⟩ (aE (by rw[aJ];omega) (hr _ q2))) λ_=>hr s q1
 ·rw[fD]at hI
  exact ax (λ_=>ω) λ_=>an λ_=>hI
theorem OS(hN:5000000≤N){c:ae}{b:aq}{m:Nat}(hm:m≤50000)(hb:G m aL b)(hR:RB c b)(id:Int)(hid:jw b.1 id):Ok (λr=>RB c r.1) (Li N c b id):=by
 have CY:iX b.1 id≠0:=(vI hR.m id).2 hid
 unfold Li
 refine bH (dD N hN hm hb) (bx (λh=>by rw[oF.2 hR]at h;exact nomatch h) λ_=>bH (rQ N (ca hb.1.1 ω) ω _) (ok_eq (λh=>absurd h CY) λ_=>af (Ov N ω hm hb.2.1 _) λa ha=>af (Yk N ω hm hb.2.2.2.2.2.1.1 ha) λr hr=>an ?_))
 have hs:=hr hR.o
 exact hR.Lt (Hz hR.o hs) λx hx=>hR.ok x (hs.subset hx)
theorem abx(hN:200000≤N){l:bC}(hl:l.length≤50000)(a d:Int):Ok (λr=>r.length≤l.length∧ ∀x∈r,x∈l) (dF N l a d):=by
 unfold dF dF.b
 refine bH (iq N ω hN) (bx (λ_=>an ⟨bA _,λx hx=>nomatch hx⟩) λ_=>bg (len:=l.length) (F:=λn i s=>dF.l5 N n l a d s i) (λi s=>s.length≤i∧ ∀x∈s,x∈l) ⟨aI 0,λx hx=>nomatch hx⟩ ω (λn i s hi hI hr=> ?_) (λn s hI=> ?_))
 all_goals unfold dF.l5 dF.e8
 ·obtain⟨hs,RU⟩:=hI
  have hx:l.getD (i:Int).toNat fu∈l:=n7 hi
  have fin: ∀k:Nat,k≤s.length→Ok (λr=>r.length≤l.length∧ ∀x∈r,x∈l) (dF.JW N (dF.l5 N n) l a d s (i:Int) (k:Int)):=λk hk=>by
   unfold dF.JW dF.Cs
   rw[ay (x:=(i:Int)+1) ω ω,ag i]
   dsimp only
   have t: ∀a b:Nat,(List.drop a (List.take b s)).length≤s.length:=λa b=>by rw[dy,bE];omega
   have t1:=t (0:Int).toNat (k:Int).toNat
   have t2:=t (k:Int).toNat (s.length:Int).toNat
   refine Cn ⟨ω,ω,ω,ω⟩ (aE ω (az ⟨ω,ω⟩ (aE (by rw[aJ];omega) (Cn ⟨ω,ω,ω,ω⟩ (aE (by rw[aX,aJ];omega) (hr _ ⟨?_,λy hy=> ?_⟩))))))
   ·simp only[cM,aX,dy,bE,aJ,aF,cT];omega
   ·rcases bf.1 hy with hy|hy
    ·rcases bf.1 hy with hy|hy
     ·exact RU y (iH (lZ hy))
     ·rw[cg.1 hy];exact hx
    ·exact RU y (iH (lZ hy))
  have h1:=hr s ⟨ω,RU⟩
  have hw:Ok (λr=>r.length≤l.length∧ ∀x∈r,x∈l) (dF.l9 N (dF.l5 N n) N l a d s (i:Int) 0):=by
   refine jW (len:=s.length) (F:=λn' j=>dF.l9 N (dF.l5 N n) n' l a d s (i:Int) j) ω (λn' j hj eV=> ?_) (λn'=> ?_)
   all_goals unfold dF.l9 dF.zA
   ·rw[ay (x:=(j:Int)+1) ω ω,ag j]
    have hah: ∀x y:gu,Ok (λ_=>True) (UE N x y):=λx y=>by unfold UE;exact bz (λ_=>fa) λ_=>fa
    exact ax (λ_=>az ⟨ω,ω⟩ (az ⟨ω,ω⟩ (af (hah _ _) λ_ _=>sb (λ_=>eV) λ_=>fin j ω))) λ_=>ω
   ·exact ax (λ_=>ω) λ_=>fin _ (aI _)
  rw[ay (x:=(i:Int)+1) ω ω,ag i]
  repeat' first|exact h1|exact hw|refine az ⟨ω,ω⟩ ?_|refine ax (λ_=> ?_) (λ_=> ?_)|refine bz (λ_=> ?_) (λ_=> ?_)|(exfalso;omega)
 ·exact ax (λ_=>ω) λ_=>an hI
def ail(x:gu)(q:Int):gu:=(x.1,(x.2.1,(x.2.2.1,(x.2.2.2.1,(q,x.2.2.2.2.2)))))
def leftOf(l:bC)(n:Int)(k:Nat)(x:gu):Prop:= ∃q:Int,x=ail (l.getD k fu) q∧n≤q∧q≤1000000000
theorem leftOf.mono{l:bC}{n n':Int}(h:n'≤n){k:Nat}{x:gu}(hx:leftOf l n k x):leftOf l n' k x:=by
 obtain⟨q,e,h1,h2⟩:=hx
 exact⟨q,e,fU h h1,h2⟩
abbrev SZ(l:bC)(o:gu)(r:bC×bO×Int×Int):Prop:=dV r.1=true∧(∀x∈r.1,∃y∈l,x.1=y.1∧x.2.1=y.2.1∧x.2.2.1=y.2.2.1)∧r.2.2.1≤o.2.2.2.2.1
theorem aby{l s:bC}{n:Int}(hs:s.length=l.length)(h: ∀k,k<l.length→leftOf l n k (s.getD k fu))(hp:l.Pairwise J4):s.Pairwise J4:=by
 rw[qk]at hp ⊢
 intro i j hi hj mj
 have g: ∀k (hk:k<s.length),s[k].1=(l[k]' ω).1:=λk hk=>by
  obtain⟨q,e,_⟩:=h k ω
  rw[iL hk,iL (show k<l.length by omega)]at e
  rw[e];rfl
 unfold J4
 rw[g i hi,g j hj]
 exact hp i j ω ω mj
theorem Yl(hN:200000≤N){l:bC}{o:gu}(hl:l.length≤50000)(hO:dV l=true)(ho:rP o):Ok (SZ l o) (cm N l o):=by
 unfold cm cm.b
 refine bH (iq N ω hN) (bx (λh=>by rw[hO]at h;exact nomatch h) λ_=>bH (A6 N o) (bx (λh=>absurd ho (of_decide_eq_false h)) λ_=>aE (by rw[bY];omega) (af (abx N hN hl _ _) λw ⟨hwl,hwm⟩=> ?_)))
 obtain⟨h1,h2,h3⟩:=kM.1 hO
 rw[cM]
 have fin: ∀(n:Int) (s:bC) (q:Int) (t:bO),s.length=l.length→(∀k,k<l.length→leftOf l n k (s.getD k fu))→q≤o.2.2.2.2.1→Ok (SZ l o) (cm.j22 N s q t):=λn s q t hs MR hq=>by
  unfold cm.j22 cm.aa4
  refine bg (len:=s.length) (F:=λn i u=>cm.xX N n s q t u i) (λi u=>u.Sublist (s.take i)∧ ∀x∈u,n0 0 x.2.2.2.2.1) ⟨Fv _,λx hx=>nomatch hx⟩ ω (λn i u hi hI hr=> ?_) (λn u hI=> ?_)
  all_goals obtain⟨i1,i2⟩:=hI
  all_goals have Ih:=i1.length_le
  all_goals rw[bE]at Ih
  all_goals unfold cm.xX cm.yE
  ·rw[ay (x:=(i:Int)+1) ω ω,ag i,aF]
   obtain⟨q1,q2⟩:=HA (d:=fu) hi i1
   exact ax (λ_=>az ⟨ω,ω⟩ (ax (λhq=>az ⟨ω,ω⟩ (aE (by rw[aJ];omega) (hr _ ⟨q2,λx hx=>by
    rcases bf.1 hx with hx|hx
    ·exact i2 x hx
    ·rw[cg.1 hx];exact hq⟩))) λ_=>hr u ⟨q1,i2⟩)) λ_=>ω
  ·rw[fD]at i1
   have Qb: ∀x∈s,∃y∈l,∃q:Int,x=ail y q∧q≤1000000000:=λx hx=>by
    obtain⟨k,hk,e⟩:=fC hx
    obtain⟨q,e',_,h⟩:=MR k ω
    rw[iL hk,e]at e'
    exact⟨_,n7 (d:=fu) (show k<l.length by omega),q,e',h⟩
   refine ax (λ_=>ω) λ_=>an ⟨kM.2 ⟨λx hx=> ?_,(aby hs MR h2).sublist i1,by have:=i1.length_le;dsimp only at*;omega⟩,λx hx=> ?_,hq⟩
   ·obtain⟨y,hy,q,e,hq⟩:=Qb x (i1.subset hx)
    have h0:=i2 x hx
    have ok:=h1 y hy
    subst e
    exact⟨ok.1,ok.2.1,ok.2.2.1,ok.2.2.2.1,⟨show(1:Int)≤q from h0,hq⟩,ok.2.2.2.2.2⟩
   ·obtain⟨y,hy,q,e,_⟩:=Qb x (i1.subset hx)
    exact⟨y,hy,by rw[e];rfl,by rw[e];rfl,by rw[e];rfl⟩
 refine bg (len:=w.length) (F:=λn i (s:bC×Int×bO)=>cm.l7 N n o s.1 s.2.1 s.2.2 w i) (s:=(_,(_,_))) (λi s=>(s.1.length=l.length∧ ∀k,k<l.length→leftOf l (-1000000000*(i:Int)) k (s.1.getD k fu))∧(0≤s.2.1∧s.2.1≤o.2.2.2.2.1)∧s.2.2.length≤i) ⟨⟨rfl,λk hk=>⟨(l.getD k fu).2.2.2.2.1,rfl,?_,?_⟩⟩,⟨?_,ec _⟩,bA _⟩ ω (λn i s hi hI hr=> ?_) (λn s hI=> ?_)
 ·have:=(h1 _ (n7 (d:=fu) hk)).2.2.2.2.1.1
  exact fU δ this
 ·exact(h1 _ (n7 (d:=fu) hk)).2.2.2.2.1.2
 ·exact fU δ ho.2.2.2.2.1.1
 all_goals unfold cm.l7 cm.rL
 ·obtain⟨⟨hs,MR⟩,hq,ht⟩:=hI
  have hoq:o.2.2.2.2.1≤1000000000:=ho.2.2.2.2.1.2
  have f1:=fin _ s.1 s.2.1 s.2.2 hs MR hq.2
  have hx:=h1 _ (hwm _ (n7 (d:=fu) hi))
  have aib: ∀(v:Int) (t:tB),0≤v→v≤s.2.1→v≤1000000000→Ok (SZ l o) (cm.Cp N (cm.l7 N n) o s.1 s.2.1 s.2.2 w (i:Int) v t):=λv t v0 v1 v2=>by
   unfold cm.Cp cm.wo
   have WR:s.2.1≤1000000000:=fU hq.2 hoq
   rw[ay (x:=s.2.1-v) ω ω]
   refine aE (by rw[aJ];omega) (bg (len:=s.1.length) (F:=λn' j u=>cm.Ig N (cm.l7 N n) n' o u (s.2.1-v) (s.2.2++[t]) w (i:Int) v j) (λj u=>u.length=l.length∧ ∀k,k<l.length→leftOf l (if k<j then-1000000000*((i:Int)+1)else-1000000000*(i:Int)) k (u.getD k fu)) ⟨hs,λk hk=>by rw[ah ω];exact MR k hk⟩ ω (λn' j u hj hJ eV=> ?_) (λn' u hJ=> ?_))
   all_goals obtain⟨Ih,hum⟩:=hJ
   all_goals unfold cm.Ig cm.En
   ·rw[ay (x:=(j:Int)+1) ω ω,ag j,aF,aF]
    have same: ∀k,k<l.length→k≠j→leftOf l (if k<j+1 then-1000000000*((i:Int)+1)else-1000000000*(i:Int)) k (u.getD k fu):=λk hk e=>by
     have:=hum k hk
     by_cases h:k<j
     ·rw[ak h]at this;rw[ak ω];exact this
     ·rw[ah h]at this;rw[ah ω];exact this
    have h0:=hum j ω
    rw[ah ω]at h0
    refine ax (λ_=>az ⟨ω,ω⟩ (az ⟨ω,ω⟩ (ok_eq (λ_=>az ⟨ω,ω⟩ (az ⟨ω,ω⟩ (eV _ ⟨by rw[bs];exact Ih,λk hk=> ?_⟩))) λ_=>eV u ⟨Ih,λk hk=> ?_⟩))) λ_=>ω
    ·by_cases e:k=j
     ·subst e
      rw[ak ω]
      obtain⟨q,e,q1,q2⟩:=h0
      have es: ∀y:gu,(u.set k y).getD k fu=y:=λy=>by
       rw[aZ,List.getElem?_set_self ω];rfl
      rw[es,e]
      unfold ail
      dsimp only
      rw[ay (x:=q-v) ω ω]
      exact⟨q-v,rfl,ω,ω⟩
     ·have es: ∀y:gu,(u.set j y).getD k fu=u.getD k fu:=λy=>by
       rw[aZ,aZ,Fi ω]
      rw[es];exact same k hk e
    ·by_cases e:k=j
     ·subst e
      rw[ak ω]
      exact h0.mono ω
     ·exact same k hk e
   ·rw[ay (x:=(i:Int)+1) ω ω,ag i]
    exact ax (λ_=>ω) λ_=>hr (_,(_,_)) ⟨⟨Ih,λk hk=>by
     have:=hum k hk
     rw[ak ω]at this
     rw[Int.natCast_add];exact this⟩,⟨by dsimp only;omega,by dsimp only;omega⟩,by dsimp only;rw[List.length_append,List.length_singleton];omega⟩
  have Lj:0<s.2.1→Ok (SZ l o) (cm.Q5 N (cm.l7 N n) o s.1 s.2.1 s.2.2 w (i:Int)):=λD7=>by
   unfold cm.Q5 cm.Lk
   rw[ay (x:=(i:Int)+1) ω ω,ag i,aF]
   dsimp only
   have h1:=hr s ⟨⟨hs,λk hk=>(MR k hk).mono ω⟩,hq,ω⟩
   have WR:s.2.1≤1000000000:=fU hq.2 hoq
   have hm:0≤mn s.2.1 (w.getD i fu).2.2.2.2.1∧mn s.2.1 (w.getD i fu).2.2.2.2.1≤s.2.1:=by
    have h1:=hx.2.2.2.2.1.1
    generalize (w.getD i fu).2.2.2.2.1=q at*
    rw[RL];split<;>omega
   repeat' first|exact h1|exact aib _ _ hm.1 hm.2 (fU hm.2 WR)|refine az ⟨ω,ω⟩ ?_|refine ok_eq (λ_=> ?_) (λ_=> ?_)
  repeat' first|exact f1|exact Lj (by assumption)|refine az ⟨ω,ω⟩ ?_|refine ax (λ_=> ?_) (λ_=> ?_)|refine ok_eq (λ_=> ?_) (λ_=> ?_)|(exfalso;omega)
 ·obtain⟨⟨hs,MR⟩,hq,ht⟩:=hI
  exact ax (λ_=>ω) λ_=>fin _ _ _ _ hs MR hq.2
theorem Ym(hN:5000000≤N){c:ae}{b:aq}{o:gu}{m:Nat}(h2:200≤m)(hm:m≤40000)(hc:G m aA c)(hb:G m aL b)(hR:RB c b)(ho:G 0 m9 o):Ok (λr=>r.2.2.2=0→RB c r.1) (ju N c b o):=by
 have Jg:=hb.2.2.2.2.2.1.1
 have dE: ∀(t:bO) (e:Int),e≠0→Ok (λr:aq×bO×Int×Int=>r.2.2.2=0→RB c r.1) (some ((bM,(dh,(cf,(cf,(dW,(eu,())))))),(t,((0:Int),e)))):=λt e h=>an λh'=>absurd h' h
 obtain⟨g1,g2,g3⟩:=kM.1 hR.o
 unfold ju ju.b
 refine af (Bv N hN h2 hm hc hb (G.mono (bA m) ho)) λe he=>bz (λh=>dE _ _ h) λe0=> ?_
 obtain⟨o1,o2,o3⟩:=he e0
 have oA:=(pK hR.a _).1 o2
 have Lj: ∀(r:bC) (t:bO) (q:Int),dV r=true→(∀x∈r,∃y∈b.2.2.2.2.2.1,x.1=y.1∧x.2.1=y.2.1∧x.2.2.1=y.2.2.1)→q≤o.2.2.2.2.1→(0<q→r.length≤31)→(∀y∈b.2.2.2.2.2.1,n0 y.1 o.1)→Ok (λr=>r.2.2.2=0→RB c r.1) (ju.Q5 N c b o (bM,(dh,(cf,(cf,(dW,(eu,())))))) r t q):=λr t q hr hrm hq MB dU=>by
  obtain⟨r1,r2,r3⟩:=kM.1 hr
  unfold ju.Q5 ju.Lk
  refine af (J9 N hN ω hb hR) λz hz=>bz (λh=>dE _ _ h) λz0=> ?_
  obtain⟨zR,_,za,_⟩:=hz z0
  have hk: ∀x∈r,Ht c z.1.2.1 x:=λx hx=>by
   obtain⟨y,hy,_,e1,e2⟩:=hrm x hx
   have:=hR.ok y hy
   unfold Ht at this ⊢
   rw[za,e1,e2];exact this
  refine ax (λh0=>aE (by rw[aJ];omega) (an λ_=>zR.Lt (kM.2 ⟨λx hx=> ?_,?_,?_⟩) λx hx=> ?_)) λ_=>an λ_=>zR.Lt hr hk
  ·rcases bf.1 hx with hx|hx
   ·exact r1 x hx
   ·rw[cg.1 hx]
    exact⟨o1.1,o1.2.1,o1.2.2.1,o1.2.2.2.1,⟨h0,fU hq o1.2.2.2.2.1.2⟩,o1.2.2.2.2.2⟩
  ·rw[wE]
   refine⟨r2,Ff ..,λx hx y hy=> ?_⟩
   rw[cg.1 hy]
   obtain⟨u,hu,e,_⟩:=hrm x hx
   unfold J4
   rw[e];exact dU u hu
  ·rw[aX,aJ];have:=MB h0;omega
  ·rcases bf.1 hx with hx|hx
   ·exact hk x hx
   ·rw[cg.1 hx]
    unfold Ht
    rw[za];exact⟨oA,o3⟩
 have hj7:(∀y∈b.2.2.2.2.2.1,n0 y.1 o.1)→Ok (λr=>r.2.2.2=0→RB c r.1) (ju.j7 N c b o (bM,(dh,(cf,(cf,(dW,(eu,()))))))):=λdU=>by
  unfold ju.j7 ju.Qc
  refine af (Yl N ω ω hR.o o1) λz ⟨z1,z2,z3⟩=> ?_
  have zl:=(kM.1 z1).2.2
  exact ax (λh0=>ok_eq (λ_=>dE _ _ δ) λij=>Lj _ _ _ z1 z2 z3 (λ_=>ω) dU) λh0=>Lj _ _ _ z1 z2 z3 (λh=>ω) dU
 refine ax (λh0=> ?_) λh0=>hj7 λy hy=> ?_
 ·dsimp only
  refine az (by rw[ay ω ω];omega) (et (λ_=>dE _ _ δ) λYn=>hj7 λy hy=> ?_)
  have e1:(W .i64 ((b.2.2.2.2.2.1.length:Int)-1)).toNat=b.2.2.2.2.2.1.length-1:=by rw[ay ω ω];omega
  rw[e1,iL ω]at Yn
  obtain⟨k,hk,e⟩:=fC hy
  by_cases h:k=b.2.2.2.2.2.1.length-1
  ·subst h;rw[←e];exact Yn
  ·have:=qk.1 g2 k (b.2.2.2.2.2.1.length-1) hk ω ω
   rw[e]at this
   exact Hs this Yn
 ·have:=List.length_pos_of_mem hy
  omega
theorem abz(hN:5000000≤N){c:ae}{b:aq}{m:Nat}(hm:m≤40000)(hc:G m aA c)(hb:G m aL b)(hR:RB c b)(f:Int)(to a:Int):Ok (λr=>r.2=0→RB c r.1) (UH N c b f to a):=by
 have bad: ∀e:Int,e≠0→Ok (λr:aq×Int=>r.2=0→RB c r.1) (some ((bM,(dh,(cf,(cf,(dW,(eu,())))))),e)):=λe h=>an λh'=>absurd h' h
 unfold UH
 refine af (XR N hN hm hc hb _ _ _) λ_ _=>bz (λh=>bad _ h) λ_=>af (Ro N ω (ca hb.1.1 ω) (ca hb.2.1.1 ω) _ _) λr hr=>bz (λh=>bad _ h) λh0=>an λ_=> ?_
 obtain⟨r1,r2,r3⟩:=hr h0
 exact hR.UY hR.m r1 (λ_ h=>h) r2 r3
theorem Yo(hN:200000≤N){c:ae}{b:aq}{m:Nat}(hm:m≤50000)(hb:G m aL b)(hR:RB c b){a:Int}(ha:qG b.2.1 a):Ok (λr=>SB c b.2.1 r∧r.length≤2*m) (m6 N b.2.2.2.1 a 0):=by
 have h:=hb.2.2.2.1
 have hl:=h.1
 have hp:=(fK (gl (oF.2 hR)).2).2
 unfold m6 m6.b
 have nil:Ok (λr:aC=>SB c b.2.1 r∧r.length≤2*m) (some []):=an ⟨SB.nil,bA _⟩
 refine bH (mR N ω hN) (bx (λ_=>nil) λ_=>ok_eq (λ_=>nil) λ_=>ax (λ_=>nil) λa0=>ax (λ_=>nil) λa1=>ax (λ_=>nil) λ_=>ax (λ_=>nil) λ_=>bg (len:=b.2.2.2.1.length) (F:=λn i s=>m6.l5 N n b.2.2.2.1 a 0 s i) (λi s=>SB c b.2.1 s∧s.length≤2*i) ⟨SB.nil,bA _⟩ ω (λn i s hi hI hr=> ?_) (λn s hI=> ?_))
 all_goals unfold m6.l5 m6.e8
 all_goals obtain⟨i1,i2⟩:=hI
 ·have hx:G m oB (b.2.2.2.1.getD i bW):=h.2 _ (n7 hi)
  have Ib:=hp _ (n7 (d:=bW) hi)
  have P7:=hR.sk _ (n7 (d:=bW) hi)
  dsimp only
  rw[ay (x:=(i:Int)+1) ω ω,ag i,aF]
  have h1:=hr s ⟨i1,ω⟩
  have hq:aG (b.2.2.2.1.getD i bW).2.2.1:=hx.2.2.1
  have nU:mZ (b.2.2.2.1.getD i bW).2.2.1:=Ib.2
  have pl:=Ib.1
  have ins:=P7.2
  generalize (b.2.2.2.1.getD i bW).2.2.1=q at*
  generalize (b.2.2.2.1.getD i bW).2.1=k at*
  have hn:=(ahT ⟨hq,nU⟩).1
  unfold aG at hn
  rw[ay hn.1 hn.2]
  exact ax (λ_=>az ⟨ω,ω⟩ (ok_eq (λ_=>az ⟨ω,ω⟩ (az ⟨ω,ω⟩ (az ⟨ω,ω⟩ (az ⟨ω,ω⟩ (aE (by rw[td];omega) (hr _ ⟨SB.app i1 (SB.two hn hq ω ⟨⟨a0,a1,pl.2.2.1,pl.2.2.2⟩,.inr ha,ins⟩ ⟨⟨δ,δ,pl.2.2.1,pl.2.2.2⟩,.inl rfl,ins⟩),by rw[aX,aU,aJ];omega⟩)))))) λ_=>h1)) λ_=>ω
 ·exact ax (λ_=>ω) λ_=>an ⟨i1,ω⟩
theorem U5{c:ae}{b:aq}(h:RB c b):b.2.1.length≤24:=OG h.a
theorem abA(hN:5000000≤N){c:ae}{b:aq}{m:Nat}(h2:200≤m)(hm:m≤1000)(hc:G m aA c)(hb:G m aL b)(hR:RB c b)(a:Int):Ok (J8 c b) (gy N c b a):=by
 have hal:=U5 hR
 unfold gy gy.b
 refine bH (dD N hN ω hb) (bx (λ_=>J8.bad δ) λhB=>af (qU N ω ω hb _) λ_ _=>ok_eq (λ_=>J8.bad δ) λ_=> ?_)
 refine bg (len:=b.2.1.length) (F:=λn i (z:aC×bJ)=>gy.l8 N n a c b (bM,(dh,(cf,(cf,(dW,(eu,())))))) z.1 z.2 i) (s:=(_,_)) (λi z=>(SB c b.2.1 z.1∧z.1.length≤2*m*i)∧PB b.1 b.2.1 z.2∧z.2.length≤4*i) ⟨⟨SB.nil,bA _⟩,PB.nil,bA _⟩ ω (λn i z hi hI hr=> ?_) (λn z hI=> ?_)
 all_goals unfold gy.l8 gy.zo
 all_goals obtain⟨⟨h5,h7⟩,h6,h8⟩:=hI
 ·have hmi:2*m*i≤2*m*24:=me _ ω
  have hms:2*m*(i+1)=2*m*i+2*m:=rj _ _
  have hx:G m eD (b.2.1.getD (i:Int).toNat aQ):=G.at hb.2.1 _
  have hA:qG b.2.1 (b.2.1.getD (i:Int).toNat aQ).1:=⟨_,n7 hi,rfl⟩
  have hM:=uM hR hA
  have hF:df 2 0∧jE b.1 b.2.1 2 0:=CC δ
  have hj: ∀p:bJ,PB b.1 b.2.1 p→p.length≤4*i+2→Ok (J8 c b) (gy.Cp N (gy.l8 N n) a c b (bM,(dh,(cf,(cf,(dW,(eu,())))))) z.1 p (i:Int) (b.2.1.getD (i:Int).toNat aQ)):=λp hp C2=>by
   unfold gy.Cp gy.wo
   rw[ay (x:=(i:Int)+1) ω ω,ag i]
   exact af (uG N ω ω hb _) λg hg=>ax (λ_=>bH (dp N ω hg.1 hg.2) (bH (oq N ω (ET (oW hg).1)) (af (th N ω ⟨(oW hg).2,by rw[Int.neg_neg];exact(oW hg).1⟩ hF hM) λu ⟨hu,Ih⟩=>aE ω (af (Yo N ω ω hb hR hA) λs ⟨hs,MR⟩=>aE ω (hr (_,_) ⟨⟨SB.app h5 hs,by dsimp only;rw[List.length_append];omega⟩,PB.app hp hu,by dsimp only;rw[List.length_append];omega⟩))))) λ_=>af (Yo N ω ω hb hR hA) λs ⟨hs,MR⟩=>aE ω (hr (_,_) ⟨⟨SB.app h5 hs,by dsimp only;rw[List.length_append];omega⟩,hp,by dsimp only;omega⟩)
  rw[ay (x:=(i:Int)+1) ω ω,ag i]
  exact ax (λ_=>az ⟨ω,ω⟩ (bz (λ_=>hr z ⟨⟨h5,ω⟩,h6,ω⟩) λ_=>ok_eq (λ_=>af (J2 N hN ω hc hb _) λq hq=>bH (dp N ω hq.1 hq.2) (af (th N ω (oW hq) hM hF) λu ⟨hu,Ih⟩=>aE ω (hj _ (PB.app h6 hu) (by rw[aX];omega)))) λ_=>hj _ h6 ω)) λ_=>ω
 ·have hmi:2*m*b.2.1.length≤2*m*24:=me _ ω
  exact ax (λ_=>ω) λ_=>af (tg N ω ω hb hR h5 h6 ω ω) λr hr=>an hr
theorem zx{n:Int}: ∀{l:aO},nC n l≠0→qG l (nC n l)
 |[],h=>absurd rfl h
 |x::t,h=>by
  rw[s0]at h ⊢
  have up:qG t (nC n t)→qG (x::t) (nC n t):=λ⟨y,hy,e⟩=>⟨y,a6 _ hy,e⟩
  by_cases e1:x.2.1=n
  ·rw[ak e1]at h ⊢
   by_cases e2:x.2.2.1=1
   ·rw[ak e2];exact⟨x,bu ..,rfl⟩
   ·rw[ah e2]at h ⊢;exact up (zx h)
  ·rw[ah e1]at h ⊢;exact up (zx h)
theorem Kb{a:aO}{n:Int}(h:nD a n≠0):qG a (nD a n):=by
 unfold nD at*
 split at h
 ·rw[ak (by assumption)];exact zx h
 ·exact absurd rfl h
def S3(c:ae)(y:lT):Prop:=(0≤y.1∧n0 y.1 c.1.length)∧mZ y.2.1
theorem Rr{c:ae}{L:aN}(h:vA c L=true): ∀x∈L,∀y∈x.2.1,S3 c y:=by
 unfold vA at h
 simp only[bQ,gk,ff]at h
 refine(gO (d:=((0:Int),(bM,aQ))) (Q:=λx=> ∀y∈x.2.1,S3 c y)).1 λj hj=> ?_
 have h1:=(h.2.2 j hj).2.2.2.1
 unfold lz at h1
 exact(gO (d:=ct) (Q:=S3 c)).1 λi hi=>by
  have h2:=bl (cL.1 h1).1 i hi
  exact⟨⟨h2.1,h2.2.1⟩,h2.2.2.2.1⟩
theorem Yp(hN:5000000≤N){c:ae}{b:aq}{L:aN}{l:aO}{m:Nat}(h2:200≤m)(hm:m≤2000)(hb:G m aL b)(hR:RB c b)(hL:LL m L)(hl:G m (.slice eD) l):Ok (λr=>r.2.2=0→RB c r.1∧r.2.1.length≤12) (fH N c b L l):=by
 have dE: ∀e:Int,e≠0→Ok (λr:aq×aN×Int=>r.2.2=0→RB c r.1∧r.2.1.length≤12) (some ((bM,(dh,(cf,(cf,(dW,(eu,())))))),([],e))):=λe h=>an λh'=>absurd h' h
 have h3:=hL.1
 have h4:=hl.1
 have hw:rV L:=λy hy=>ca (hL.2 y hy).2.1.1 ω
 have hci:c.1.length≤6:=by
  have:=hR.c
  unfold eO at this
  exact(bl (cL.1 this).1).2
 unfold fH fH.b
 refine bH (dD N hN ω hb) (bx (λ_=>dE _ δ) λ_=>bH (Bi N ω c ω hw) (bx (λ_=>dE _ δ) λhk=>bH (uz N ω ω) (bx (λ_=>dE _ δ) λ_=> ?_)))
 have S4:=Rr hk
 have Y3:L.length≤12:=by
  unfold vA at hk
  exact bl (cL.1 (cL.1 hk).2).1
 refine bg (len:=L.length) (F:=λn i (z:aC×bJ×aN)=>fH.l7 N n L l b (bM,(dh,(cf,(cf,(dW,(eu,())))))) z.1 z.2.1 z.2.2 i) (s:=(_,(_,_))) (λi z=>(SB c b.2.1 z.1∧z.1.length≤2*m*i)∧(PB b.1 b.2.1 z.2.1∧z.2.1.length≤2*i)∧z.2.2.length≤i) ⟨⟨SB.nil,bA _⟩,⟨PB.nil,bA _⟩,bA _⟩ ω (λn i z hi hI hr=> ?_) (λn z hI=> ?_)
 all_goals unfold fH.l7 fH.rL
 all_goals obtain⟨⟨h5,h8⟩,⟨h6,h9⟩,h7⟩:=hI
 ·have hmi:2*m*i≤2*m*12:=me _ ω
  have hms:2*m*(i+1)=2*m*i+2*m:=rj _ _
  have hx:G m fZ (L.getD (i:Int).toNat ((0:Int),(bM,aQ))):=G.at hL _
  have hxl:=hx.2.1.1
  have atf:=S4 _ (n7 (d:=((0:Int),(bM,aQ))) hi)
  rw[ay (x:=(i:Int)+1) ω ω,ag i]
  dsimp only
  rw[cM]
  have put: ∀x:eE,Ok (λr=>r.2.2=0→RB c r.1∧r.2.1.length≤12) (cond (small (z.2.2.length+[x].length)) (fH.l7 N n L l b (bM,(dh,(cf,(cf,(dW,(eu,())))))) z.1 z.2.1 (z.2.2++[x]) ((i+1:Nat):Int)) none):=λx=>aE (by rw[List.length_singleton];omega) (hr (z.1,(z.2.1,z.2.2++[x])) ⟨⟨h5,by dsimp only;omega⟩,⟨h6,by dsimp only;omega⟩,by dsimp only;rw[List.length_append,List.length_singleton];omega⟩)
  refine ax (λ_=>az ⟨ω,ω⟩ (aE (by rw[bY];omega) (bz (λ_=>put _) λ_=>af (SU N ω ω hl _) λw hw=>bx (λ_=>put _) λ_=>bH (qS N (ca hb.2.1.1 ω) ω _) (ok_eq (λ_=>dE _ δ) λhh=>af (qU N ω ω hb _) λ_ _=>ok_eq (λ_=>dE _ δ) λ_=> ?_)))) λ_=>ω
  have hA:=Kb hh
  have hM:=uM hR hA
  have hF:df 2 0∧jE b.1 b.2.1 2 0:=CC δ
  have anO:0≤nD b.2.1 w.1.2.2.1∧nD b.2.1 w.1.2.2.1≤24:=by
   have:=hM.1
   unfold df at this;omega
  generalize nD b.2.1 w.1.2.2.1=h at*
  have hX': ∀y∈(L.getD (i:Int).toNat ((0:Int),(bM,aQ))).2.1,S3 c y∧G m hZ y:=λy hy=>⟨atf y (by rw[aF]at hy;exact hy),hx.2.1.2 y hy⟩
  generalize hX:(((L.getD (i:Int).toNat ((0:Int),(bM,aQ))).1,((L.getD (i:Int).toNat ((0:Int),(bM,aQ))).2.1,((L.getD (i:Int).toNat ((0:Int),(bM,aQ))).2.2.1,((2:Int),(w.1.2.2.1,(w.1.2.2.2.1,())))))):eE)=X
  have hXe:X.2.1=(L.getD (i:Int).toNat ((0:Int),(bM,aQ))).2.1:=by rw[←hX]
  rw[←hXe]at hX' hxl
  refine bg (len:=X.2.1.length) (F:=λn' j u=>fH.xq N (fH.l7 N n) n' L l b (bM,(dh,(cf,(cf,(dW,(eu,())))))) u z.2.1 z.2.2 (i:Int) X w.1 h j) (s:=z.1) (λj u=>SB c b.2.1 u∧u.length≤2*m*i+2*j) ⟨h5,h8⟩ ω (λn' j u hj hu eV=> ?_) (λn' u hu=> ?_)
  all_goals unfold fH.xq fH.wm
  all_goals obtain⟨hu,Ih⟩:=hu
  ·have hy:=hX' _ (n7 (d:=ct) hj)
   dsimp only
   rw[ay (x:=(j:Int)+1) ω ω,ag j,aF]
   generalize X.2.1.getD j ct=y at*
   obtain⟨⟨⟨y0,y1⟩,y2⟩,y3⟩:=hy
   have hq:aG y.2.1:=y3.2.1
   have hn:=(ahT ⟨hq,y2⟩).1
   have hn':=hn
   unfold aG at hn'
   have e:W .i64 (0-y.2.1)=0-y.2.1:=ay hn'.1 hn'.2
   rw[e]
   have g6: ∀x:Int,n0 x c.1.length→x<6:=λx h=>by unfold n0 at h;omega
   exact ax (λ_=>az ⟨ω,ω⟩ (az ⟨ω,ω⟩ (az ⟨ω,ω⟩ (az ⟨ω,ω⟩ (aE (by rw[td];omega) (eV _ ⟨SB.app hu (SB.two hn hq ω ⟨⟨δ,δ,y0,g6 _ y1⟩,.inl rfl,y1⟩ ⟨⟨anO.1,anO.2,y0,g6 _ y1⟩,.inr hA,y1⟩),by rw[aX,aU,aJ];omega⟩)))))) λ_=>ω
  ·have Cj:aG w.1.2.2.2.1:=hw.2.2.2.1
   refine ax (λ_=>ω) λ_=>bH (dp N ω Cj.1 Cj.2) (af (th N ω (oW Cj) hM hF) λp ⟨hp,C2⟩=>aE ω (aE (by rw[aJ];omega) ?_))
   rw[ay (x:=(i:Int)+1) ω ω,ag i]
   exact hr (_,(_,_)) ⟨⟨hu,by dsimp only;omega⟩,⟨PB.app h6 hp,by dsimp only;rw[List.length_append];omega⟩,by dsimp only;rw[List.length_append,List.length_singleton];omega⟩
 ·have hmi:2*m*L.length≤2*m*12:=me _ ω
  exact ax (λ_=>ω) λ_=>af (tg N ω ω hb hR h5 h6 ω ω) λr hr=>bz (λh=>dE _ h) λh0=>an λ_=>⟨(hr h0).1,by dsimp only;omega⟩
theorem Kc{a k:Int}: ∀{l:aC},gL a k l≠0→ ∃x∈l,x.1=a∧x.2.1=k
 |[],h=>absurd rfl h
 |x::t,h=>by
  rw[jq]at h
  have up:gL a k t≠0→ ∃y∈x::t,y.1=a∧y.2.1=k:=λh=>let⟨y,hy,e⟩:=Kc h;⟨y,a6 _ hy,e⟩
  by_cases e1:x.1=a
  ·rw[ak e1]at h
   by_cases e2:x.2.1=k
   ·exact⟨x,bu ..,e1,e2⟩
   ·rw[ah e2]at h;exact up h
  ·rw[ah e1]at h;exact up h
def PT(b:aq)(k n:Int):Prop:=df k n∧jE b.1 b.2.1 k n
theorem abB{c:ae}{b:aq}(hR:RB c b){k n:Int}(h:vY b.2.2.1 k n≠0):PT b k n:=by
 unfold vY at h
 rw[ak hR.r]at h
 obtain⟨x,hx,e1,e2⟩:=Kc h
 have h1:=(vy hR.r).2 x hx
 have h2:=hR.rk x hx
 rw[e1,e2]at h1 h2
 exact⟨h1,h2⟩
theorem Yq{a:aO}(hA:gR a=true){id:Int}{x:cv×Bool}(e:x=fX a id)(h:x.2=true):qG a x.1.1:=by
 subst e
 unfold fX at*
 rw[ak hA]at h ⊢
 have key: ∀l:aO,(ur id l).2=true→(ur id l).1∈l:=by
  intro l
  induction l with
  |nil=>intro h;exact nomatch h
  |cons y t ih=>
   intro h
   rw[ou]at h ⊢
   by_cases e:y.1=id
   ·rw[ak e];exact bu ..
   ·rw[ah e]at h ⊢;exact a6 _ (ih h)
 exact⟨_,key a h,rfl⟩
abbrev T5(b:aq)(k:Nat)(l:bO):Prop:=l.length≤k∧ ∀x∈l,PT b x.2.1 x.2.2.1
theorem T5.mono{b:aq}{j k:Nat}{l:bO}(h:T5 b j l)(hk:j≤k):T5 b k l:=⟨ca h.1 hk,h.2⟩
theorem T5.nil{b:aq}{k:Nat}:T5 b k []:=⟨bA _,λx hx=>nomatch hx⟩
theorem T5.app{b:aq}{k:Nat}{l:bO}(h:T5 b k l){s d n x y:Int}(hx:PT b d n):T5 b (k+1) (l++[(s,(d,(n,(x,(y,())))))]):=
 ⟨by rw[aX,aJ];exact Nat.succ_le_succ h.1,λz hz=>by
  rcases bf.1 hz with hz|hz
  ·exact h.2 z hz
  ·rw[cg.1 hz];exact hx⟩
theorem row_in(hN:200000≤N){c:ae}{l:bO}{b:aq}{m k:Nat}(hm:m≤50000)(hb:G m aL b)(hR:RB c b)(hk:k≤1000000)(hl:T5 b k l)(a d n:Int):Ok (T5 b (k+1)) (Lo N l b a d n):=by
 have h1:=hl.1
 unfold Lo
 exact bH (Xk N (ca hb.2.2.1.1 ω) hN _ _) (ax (λh=>aE (by rw[aJ];omega) (an (T5.app hl (abB hR ω)))) λ_=>an (T5.mono hl ω))
theorem Yr(hN:5000000≤N){c:ae}{b:aq}{d g:aB}{a:Int}{m:Nat}(hm:m≤50000)(hc:G m aA c)(hb:G m aL b)(hR:RB c b)(hd:L2 m d)(hg:L2 m g):Ok (λr=>T5 b 1000000 r.1∧(r.2=0→jw b.1 a)) (cH N c b a d g):=by
 have h1:=hb.1.1
 have h2:=hd.1
 have h3:=hg.1
 have h4:=hb.2.1.1
 have nil: ∀e:Int,e≠0→Ok (λr:bO×Int=>T5 b 1000000 r.1∧(r.2=0→jw b.1 a)) (some ([],e)):=λe h=>an ⟨T5.nil,λh'=>absurd h' h⟩
 have hj:jw b.1 a→ ∀l:bO,T5 b 1 l→Ok (λr=>T5 b 1000000 r.1∧(r.2=0→jw b.1 a)) (cH.j9 N a d g c b l):=λhMa l hl=>by
  unfold cH.j9 cH.NL
  refine af (row_in N ω hm hb hR ω hl _ _ _) λl hl=>af (row_in N ω hm hb hR ω hl _ _ _) λl hl=>la (len:=5) (F:=λn k s=>cH.qA N n a d g c b s k) (λk s=>T5 b (3+m*k) s) (λn k s hk hs hr=> ?_) (λn s hs=> ?_) 5 N 1 l ω ω ω (T5.mono hl ω)
  all_goals unfold cH.qA cH.pZ
  ·have hmk:m*k≤m*4:=me m ω
   refine et (λ_=>af (Hg N hN c hm hb hd _ _) λt ht=> ?_) λ_=>ω
   have htl:=ht.1
   refine bg (len:=t.1.length) (F:=λn' j u=>cH.LZ N (cH.qA N n) n' a d g c b u (k:Int) t.1 j) (λj u=>T5 b (3+m*k+j) u) hs ω (λn' j u hj hu eV=> ?_) (λn' u hu=> ?_)
   all_goals unfold cH.LZ cH.KW
   ·rw[ay (x:=(j:Int)+1) ω ω,ag j]
    exact ax (λ_=>az ⟨ω,ω⟩ (af (row_in N ω hm hb hR ω hu _ _ _) λv hv=>eV v hv)) λ_=>ω
   ·rw[ay (x:=(k:Int)+1) ω ω,ag k]
    exact ax (λ_=>ω) λ_=>hr u (T5.mono hu (by rw[rj];omega))
  ·refine et (λ_=>ω) λ_=>bg (len:=b.1.length) (F:=λn j u=>cH.IT N n a g c b u j) (λj u=>T5 b (3+m*5+j) u) hs ω (λn j u hj hu hr=> ?_) (λn u hu=> ?_)
   all_goals unfold cH.IT cH.OB
   ·have Ih:=hu.1
    have hM:PT b 7 (b.1.getD (j:Int).toNat ct).1:=BA hR δ ⟨_,n7 hj,rfl⟩
    rw[ay (x:=(j:Int)+1) ω ω,ag j]
    have h0:=hr u (T5.mono hu ω)
    exact ax (λ_=>az ⟨ω,ω⟩ (af (Lm N _) λ_ _=>bx (λ_=>h0) λ_=>ok_eq (λ_=>h0) λ_=>af (br N ω hc.2.2.1) λp hp=>af (mK N ω hm hb.2.2.1 _ _) λq hq=>af (br N ω hq) λq hq=>af (lV N ω ω ω hp hq) λy hy=>af (xB N hy) λv hv=>bx (λ_=>nil _ δ) λ_=>ax (λ_=>aE (by rw[aJ];omega) (hr _ (T5.mono (T5.app hu hM) ω))) λ_=>h0)) λ_=>ω
   ·refine ax (λ_=>ω) λ_=>bg (len:=g.length) (F:=λn j u=>cH.l30 N n a g b u j) (λj u=>T5 b (3+m*5+m+j) u) (T5.mono hu ω) ω (λn j u hj hu hr=> ?_) (λn u hu=> ?_)
    all_goals unfold cH.l30 cH.abb
    ·have Ih:=hu.1
     rw[ay (x:=(j:Int)+1) ω ω,ag j]
     have h0:=hr u (T5.mono hu ω)
     dsimp only
     exact ax (λ_=>az ⟨ω,ω⟩ (af (Hb N ω hm hb.2.1 _) λx ⟨hx,ZE⟩=>az ⟨ω,ω⟩ (az ⟨ω,ω⟩ (af (mK N ω hm hb.2.2.1 _ _) λq hq=>sb (λhf=>bz (λ_=>ax (λ_=>aE (by rw[aJ];omega) (hr _ (T5.mono (T5.app hu (uM hR (Yq hR.a ZE hf))) ω))) λ_=>h0) λ_=>h0) λ_=>h0)))) λ_=>ω
    ·exact ax (λ_=>ω) λ_=>an ⟨T5.mono hu ω,λ_=>hMa⟩
 unfold cH cH.b
 exact bH (dD N hN hm hb) (bx (λ_=>nil _ δ) λ_=>af (uI N ω ω) λ_ _=>bx (λ_=>nil _ δ) λ_=>af (Ct N ω ω) λ_ _=>bx (λ_=>nil _ δ) λ_=>bH (rQ N (ca hb.1.1 ω) ω _) (ok_eq (λ_=>nil _ δ) λhs=>have hMa:=(vI hR.m a).1 hs;af (Bx N ω hm hb.2.1 _) λh hh=>bz (λ_=>af (row_in N ω hm hb hR ω (T5.nil (k:=0)) _ _ _) λl hl=>hj hMa l hl) λ_=>hj hMa [] T5.nil))
theorem U6(hN:5000000≤N){c:ae}{b:aq}{d g:aB}{a:Int}{m:Nat}(h2:200≤m)(hm:m≤40000)(hc:G m aA c)(hb:G m aL b)(hR:RB c b)(hd:L2 m d)(hg:L2 m g)(ha:aG a):Ok (λr=>r.2.2=0→RBs c b r.1) (iz N c b a d g):=by
 have dE: ∀e:Int,e≠0→Ok (λr:aq×dG×Int=>r.2.2=0→RBs c b r.1) (some ((bM,(dh,(cf,(cf,(dW,(eu,())))))),(R0,e))):=λe h=>an λh'=>absurd h' h
 unfold iz iz.b
 refine af (Ok.and (Yr N hN ω hc hb hR hd hg) (OE N hN ω hc hb hd hg ha)) λl ⟨⟨⟨_,Zc⟩,hMa⟩,hl2⟩=>ok_eq (λh=>dE _ ω) λ_=>ok_eq (λh=>dE _ ω) λ_=>af (JZ N hN c ω hb) λq hq=>bz (λh=>dE _ h) λ_=>bz (λh=>dE _ h) λh0=>af (J0 N hN (Q:=λx=>G 64 tE x∧PT b x.2.1 x.2.2.1) (λx hx=>hx.1.2.2.2.1) (λx v hx hv=>⟨G5q hx.1 hv,hx.2⟩) (λx hx=>⟨G.mono (m:=0) (bA _) (hl2.2 x hx),Zc x hx⟩) hq) λz ⟨⟨Y9,yP⟩,EM⟩=>bz (λh=>dE _ h) λ_=> ?_
 have hMa:=hMa h0
 have hF:df 2 0∧jE b.1 b.2.1 2 0:=CC δ
 have hj: ∀(p:bJ) (r:dG) (t:bO) (x k n:Int),PB b.1 b.2.1 p→p.length≤1000→PT b k n→aG x→Ok (λr=>r.2.2=0→RBs c b r.1) (iz.j26 N b (bM,(dh,(cf,(cf,(dW,(eu,())))))) R0 p r t x k n):=λp r t x k n hp C2 hk hx=>by
  unfold iz.j26 iz.abf
  exact bH (dp N ω hx.1 hx.2) (af (th N ω (oW hx) hF hk) λu ⟨hu,Ih⟩=>aE ω (af (tg N ω ω hb hR SB.nil (PB.app hp hu) (bA _) (by rw[aX];omega)) λw hw=>bz (λh=>dE _ h) λh0=>an λ_=>hw h0))
 refine bg (len:=z.1.length) (F:=λn i (s:bJ×dG×bO)=>iz.yc N n a c b (bM,(dh,(cf,(cf,(dW,(eu,())))))) R0 z.1 z.2.1 s.1 s.2.1 s.2.2 i) (s:=(_,(_,_))) (λi s=>(PB b.1 b.2.1 s.1∧s.1.length≤2*i)∧s.2.2.length≤i) ⟨⟨PB.nil,bA _⟩,bA _⟩ ω (λn i s hi hI hr=> ?_) (λn s hI=> ?_)
 all_goals unfold iz.yc iz.Bf
 all_goals obtain⟨⟨h4,hp⟩,ht⟩:=hI
 ·obtain⟨hx,hk⟩:=yP _ (n7 (d:=np) hi)
  have hx:aG (z.1.getD i np).2.2.2.2.1:=hx.2.2.2.2.1
  rw[ay (x:=(i:Int)+1) ω ω,ag i,aF]
  exact ax (λ_=>az ⟨ω,ω⟩ (ax (λ_=>az ⟨ω,ω⟩ (aE (by rw[List.length_singleton];omega) (az ⟨ω,ω⟩ (az ⟨ω,ω⟩ (az ⟨ω,ω⟩ (bH (dp N ω hx.1 hx.2) (af (th N ω (oW hx) hk hF) λu ⟨hu,Ih⟩=>aE ω (hr (_,(_,_)) ⟨⟨PB.app h4 hu,by dsimp only;rw[List.length_append];omega⟩,by dsimp only;rw[List.length_append,List.length_singleton];omega⟩)))))))) λ_=>hr s ⟨⟨h4,ω⟩,ω⟩)) λ_=>ω
 ·dsimp only
  have hS:df 4 0∧jE b.1 b.2.1 4 0:=CC δ
  exact ax (λ_=>ω) λ_=>bH (dp N ω EM.1 EM.2) (af (th N ω (oW EM) hS hF) λu ⟨hu,Ih⟩=>aE ω (af (Hh N hN c ω hb) λx hx=>bH (qS N (ca hb.2.1.1 ω) ω _) (bz (λhh=>hj _ _ _ _ _ _ (PB.app h4 hu) (by rw[aX];omega) (uM hR (Kb hh)) hx) λ_=>hj _ _ _ _ _ _ (PB.app h4 hu) (by rw[aX];omega) (BA hR δ hMa) hx)))
theorem anP{q x:Int}(h0:0≤x)(h1:x<9223372036854775808):aG (sg q x)∧mZ (sg q x):=by
 unfold sg aG mZ;split<;>omega
theorem Ys{t left:Int}{w out:List Int}(f:Full t w w out left)(i:Nat)(hi:i<w.length):0≤out.getD i 0∧out.getD i 0<9223372036854775808:=by
 have c:=f.c
 have h1:=c.le i hi
 have h2:=(c.pc i).2
 have h3:=c.po i
 omega
theorem U7{a q:Int}{accs out:List Int}(hl:accs.length=out.length)(hle:out.length≤1000)(ho: ∀i,i<out.length→0≤out.getD i 0∧out.getD i 0<9223372036854775808)(s:aC)(hs:s.length≤1000)(hN:200000≤N):
  fA.yF N N a q accs out s 0=some (s++zc a q (out.zip accs),0):=by
 have hz:(out.zip accs).length=out.length:=by rw[wL];omega
 have:=vr (out.zip accs) (0,0) (λn i s=>fA.yF N n a q accs out s i) (λt s=>some (s++zc a q t,(0:Int))) (λi (s:aC)=>s.length≤1000+i) (λn i s hi hI hr=> ?_) (λn s hI=> ?_) out.length N 0 s ω ω ω ω
 ·exact this
 ·unfold fA.yF fA.Bo
  have mz:i<out.length:=ω
  have h2:=ho i mz
  rw[aP ω,aj,aY ω ω,aj,aF,aY ω ω,aj,ay (x:=(i:Int)+1) ω ω,ag i,ay (x:=0-out.getD i 0) ω ω,XA mz ω,EW]
  dsimp only
  rw[aj,ch (by rw[aJ];omega),aj,ch (by rw[aJ];omega),aj]
  have e:sg q (out.getD i 0)=if q<0 then 0-out.getD i 0 else out.getD i 0:=rfl
  rw[c4,cond_not,cond_not,aR,aR]
  have fin:(if sg q (out.getD i 0)=0 then fA.yF N n a q accs out s ((i+1:Nat):Int)else fA.yF N n a q accs out (s++[(accs.getD i 0,(a,(sg q (out.getD i 0),())))]) ((i+1:Nat):Int))=some (s++(if sg q (out.getD i 0)=0 then zc a q ((out.zip accs).drop (i+1))else(accs.getD i 0,(a,(sg q (out.getD i 0),())))::zc a q ((out.zip accs).drop (i+1))),(0:Int)):=by
   by_cases h:sg q (out.getD i 0)=0
   ·rw[ak h,ak h];exact hr s ω
   ·rw[ah h,ah h,hr _ (by rw[aX,aJ];omega),bU];rfl
  refine Eq.trans ?_ fin
  by_cases h:q<0
  ·rw[ak h,e,ak h]
  ·rw[ah h,e,ah h]
 ·unfold fA.yF fA.Bo
  rw[hz,aK ω,au]
  show _=some (s++[],(0:Int))
  rw[cN]
theorem S5{l:aC}(h: ∀x∈l,aG (gJ x)∧mZ (gJ x))(a b:Int):aG (fL l a b)∧mZ (fL l a b):=by
 have key: ∀l:aC,(∀x∈l,aG (gJ x)∧mZ (gJ x))→aG (gL a b l)∧mZ (gL a b l):=by
  intro l
  induction l with
  |nil=>intro _;show aG 0∧mZ 0;decide
  |cons x t ih=>
   intro h
   have ih:=ih (λy hy=>h y (a6 _ hy))
   rw[jq]
   split
   ·split
    ·exact h x (bu ..)
    ·exact ih
   ·exact ih
 unfold fL
 split
 ·exact key l h
 ·decide
theorem LA(l:aC):(yX l).length=l.length:=fE ..
theorem BB(l:aC):(js l).length=l.length:=fE ..
theorem Kd{q:Int}(h:aG q∧mZ q):(q.natAbs:Int)<9223372036854775808:=by unfold aG mZ at h;omega
theorem LB{l:aC}(hk:dq l=true)(hq:gF l): ∀x∈l,aG (gJ x)∧mZ (gJ x):=λx hx=>⟨hq x hx,((fK hk).2 x hx).2⟩
theorem Ke{l:aC}(hk:dq l=true)(hq:gF l){a q:Int}(sE:aG q∧mZ q)(hc:(jV l a q).2.2=0):
  Full (q.natAbs:Int) (js (fM a q l)) (js (fM a q l)) (jV l a q).1 (jV l a q).2.1∧(jV l a q).1.length=(fM a q l).length∧(jV l a q).1.length≤64∧ ∀i,i<(jV l a q).1.length→0≤(jV l a q).1.getD i 0∧(jV l a q).1.getD i 0<9223372036854775808:=by
 have f:Full (q.natAbs:Int) (js (fM a q l)) (js (fM a q l)) (jV l a q).1 (jV l a q).2.1:=G8 (Kd sE) (Cm (LB hk hq) a q) hc
 have h1:=f.c.l2
 have h2:=f.c.n
 rw[BB]at h1 h2
 exact⟨f,h1,ω,λi hi=>Ys f i (by rw[BB];omega)⟩
theorem Yt{l:aC}(h:dq l=true): ∀x∈l,gJ x≠0:=λx hx=>by
 unfold dq at h
 rw[gk]at h
 obtain⟨i,hi,e⟩:=fC hx
 have:=bl h i hi
 unfold lR mF at this
 rw[aZ,bo hi]at this
 simp only[lG,e]at this
 exact this.2.1
theorem Yu{x:Int}(h:aG x∧mZ x):mx x (W .i64 (0-x))=(x.natAbs:Int):=by
 unfold aG mZ at h
 rw[ay ω ω,RK];split<;>omega
theorem OT{x q:Int}(hx:x≠0)(hq:q≠0):IN x q↔ ¬((0<x)↔(0<q)):=by
 unfold IN;omega
theorem Yv(hN:5000000≤N)(c:ae){b:aq}(w:ow b)(a:Int):fA N c b a=some (vG c b a):=by
 unfold fA fA.b vG
 rw[NV N ω w,aw,K1 N w.s ω,aw,cond_not,c4,cK,aR]
 by_cases hB:dT c b=false
 ·rw[hB];rfl
 rw[Bool.not_eq_false]at hB
 rw[hB,aj,ak rfl]
 obtain⟨_,hk⟩:=gl hB
 have hq:=LB hk w.qs
 have hnz:=Yt hk
 have hh:=S5 hq 0 a
 have hlen:=w.s
 have hqs:=w.qs
 generalize fL b.2.2.2.1 0 a=q at*
 by_cases h1:a<0
 ·rw[ak h1,ak h1]
 rw[ah h1,ah h1]
 by_cases h2:(c.1.length:Int)≤a
 ·rw[ak h2,ak h2]
 rw[ah h2,ah h2]
 by_cases h3:q=0
 ·rw[ak h3,ak h3]
 rw[ah h3,ah h3]
 have nU:=hh.1
 unfold aG at nU
 have hqn:q≠ -9223372036854775808:=hh.2
 have:=vr b.2.2.2.1 bW (λn i (z:aC)=>fA.Co N n a b q (yX z) (js z) i)
  (λt z=>some (if(jV b.2.2.2.1 a q).2.2=0 then(aaN b.2.2.2.1 a q,0)else([],(jV b.2.2.2.1 a q).2.2))) (λi z=>z++fM a q (b.2.2.2.1.drop i)=fM a q b.2.2.2.1∧z.length≤i)
  (λn i z hi hI hr=> ?_) (λn z hI=> ?_) b.2.2.2.1.length N 0 [] ω ω ω ⟨rfl,aI _⟩
 ·exact this
 ·unfold fA.Co fA.zr
  obtain⟨i1,i2⟩:=hI
  have hm:b.2.2.2.1.getD i bW∈b.2.2.2.1:=by
   rw[aZ,bo hi];exact fg hi
  have hx:=hq _ hm
  have hn:=hnz _ hm
  rw[drop_cons hi bW,sa]at i1
  rw[aP ω,aj,aY ω ω,aj,aF,ay (x:=(i:Int)+1) ω ω,ag i]
  generalize b.2.2.2.1.getD i bW=x at*
  have LV:mx x.2.2.1 (W .i64 (0-x.2.2.1))=(x.2.2.1.natAbs:Int):=Yu hx
  rw[ch (by rw[LA,aJ];omega),aj,LV]
  dsimp only
  rw[ch (by rw[BB,aJ];omega),aj,cond_not,aR,aR,cond_not,uk,rm,rm]
  by_cases e1:x.1=0
  ·rw[ak e1]
   rw[ah (λh=>h.1 e1)]at i1
   exact hr z ⟨i1,ω⟩
  ·rw[ah e1]
   by_cases e2:x.2.1=a
   ·rw[ak e2]
    by_cases e3:IN (gJ x) q
    ·have eb:(decide (0<x.2.2.1)==decide (0<q))=false:=by
      have e3:=(OT hn h3).1 e3
      unfold gJ at e3
      by_cases g1:0<x.2.2.1<;>by_cases g2:0<q
      ·exact absurd ⟨λ_=>g2,λ_=>g1⟩ e3
      ·rw[bq g1,bK g2];rfl
      ·rw[bK g1,bq g2];rfl
      ·exact absurd ⟨λh=>absurd h g1,λh=>absurd h g2⟩ e3
     rw[eb,au]
     rw[ak ⟨e1,e2,e3⟩]at i1
     have:=hr (z++[x]) ⟨by rw[bU];exact i1,by rw[aX,aJ];omega⟩
     unfold yX js at this
     rw[dL,dL]at this
     exact this
    ·have eb:(decide (0<x.2.2.1)==decide (0<q))=true:=by
      have e3:=Fs.1 (λh=>e3 ((OT hn h3).2 h))
      unfold gJ at e3
      rw[show decide (0<x.2.2.1)=decide (0<q)from oY.2 e3]
      exact z6 _
     rw[eb,aj]
     rw[ah (λh=>e3 h.2.2)]at i1
     exact hr z ⟨i1,ω⟩
   ·rw[ah e2]
    rw[ah (λh=>e2 h.2.1)]at i1
    exact hr z ⟨i1,ω⟩
 ·unfold fA.Co fA.zr
  obtain⟨i1,i2⟩:=hI
  rw[oX]at i1
  have ez:z=fM a q b.2.2.2.1:=by rw[←i1];exact(cN _).symm
  subst ez
  have pT:=BB (fM a q b.2.2.2.1)
  have C2:=JR a q b.2.2.2.1
  rw[aK ω,au,Yu hh,G7 N hN (Kd hh) (Cm hq a q) (Cm hq a q) (by rw[pT];omega),aw,cond_not,aR,ay (x:=0-q) ω ω]
  show(if(jV b.2.2.2.1 a q).2.2=0 then _ else _)=_
  by_cases h4:(jV b.2.2.2.1 a q).2.2=0
  ·rw[ak h4,ak h4]
   obtain⟨f,g1,g2,g3⟩:=Ke hk hqs hh h4
   exact U7 N (by rw[LA];omega) ω g3 _ (by simp) ω
  ·rw[ah h4,ah h4];rfl
end VM
end
section
namespace VM
open Go VM.F Go.RowKit
variable(N:Nat)
structure yZ(s:aC)(n:Nat):Prop where
 place: ∀x∈s,cE x.1 x.2.1
 q: ∀x∈s,aG (gJ x)∧mZ (gJ x)
 len:s.length≤n
 flat: ∀i:Int,(dS i s).sum=0
theorem yZ.nil(n:Nat):yZ [] n:=⟨λx hx=>(nomatch hx),λx hx=>(nomatch hx),bA _,λi=>rfl⟩
theorem yZ.app{s t:aC}{n m k:Nat}(a:yZ s n)(b:yZ t m)(h:n+m≤k):yZ (s++t) k:=
 ⟨λx hx=>(bf.1 hx).elim (a.place x) (b.place x),λx hx=>(bf.1 hx).elim (a.q x) (b.q x),by rw[aX];have:=a.len;have:=b.len;omega,λi=>by rw[IL,lI,a.flat,b.flat];rfl⟩
theorem Rs(a q i:Int): ∀t:List (Int×Int),(dS i (zc a q t)).sum=if a=i then sg q (t.map (·.1)).sum else 0
 |[]=>by
  show(0:Int)=if a=i then sg q 0 else 0
  unfold sg;split<;>(try split)<;>rfl
 |p::t=>by
  have ih:=Rs a q i t
  have hs:sg q ((p::t).map (·.1)).sum=sg q p.1+sg q (t.map (·.1)).sum:=by
   rw[bZ,cD];unfold sg;split<;>omega
  rw[EW,hs]
  by_cases h:sg q p.1=0
  ·rw[ak h,ih,h];split<;>omega
  ·rw[ah h,ef]
   dsimp only
   by_cases e:a=i
   ·rw[ak e,ak e,cD,ih,ak e];rfl
   ·rw[ah e,ah e,ih,ah e]
theorem LC{a q:Int}{x:eP}: ∀{t:List (Int×Int)},x∈zc a q t→ ∃p∈t,x=(p.2,(a,(sg q p.1,())))
 |[],h=>nomatch h
 |p::t,h=>by
  rw[EW]at h
  split at h
  ·obtain⟨p',hp,e⟩:=LC h
   exact⟨p',a6 _ hp,e⟩
  ·rcases bm.1 h with e|h
   ·exact⟨p,bu ..,e⟩
   ·obtain⟨p',hp,e⟩:=LC h
    exact⟨p',a6 _ hp,e⟩
theorem Yw(a q:Int): ∀t:List (Int×Int),(zc a q t).length≤t.length
 |[]=>aI _
 |p::t=>by
  have:=Yw a q t
  rw[EW,aU]
  split
  ·omega
  ·rw[aU];omega
theorem OU{c:ae}{b:aq}(h:dT c b=true):ov b.2.2.2.1=true∧eO c=true:=by
 unfold dT at h
 have h0:=cL.1 h
 have h1:=(cL.1 h0.2).2
 have h2:=cL.1 h1
 exact⟨(cL.1 (cL.1 h2.2).2).1,h0.1⟩
theorem Yx{c:ae}{b:aq}(hB:dT c b=true)(w:ow b){a:Int}(h:(vG c b a).2=0):yZ (vG c b a).1 65:=by
 obtain⟨_,hk⟩:=gl hB
 obtain⟨hf,C2⟩:=OU hB
 have hq:=LB hk w.qs
 have hh:=S5 hq 0 a
 obtain⟨hs,EF⟩:=fK hk
 unfold vG at h ⊢
 rw[ak hB]at h ⊢
 by_cases h1:a<0
 ·rw[ak h1];exact yZ.nil _
 rw[ah h1]at h ⊢
 by_cases h2:(c.1.length:Int)≤a
 ·rw[ak h2];exact yZ.nil _
 rw[ah h2]at h ⊢
 by_cases h3:fL b.2.2.2.1 0 a=0
 ·rw[ak h3];exact yZ.nil _
 rw[ah h3]at h ⊢
 by_cases h4:(jV b.2.2.2.1 a (fL b.2.2.2.1 0 a)).2.2=0
 ·rw[ak h4]
  have aim:gL 0 a b.2.2.2.1=fL b.2.2.2.1 0 a:=by unfold fL;rw[hk];rfl
  have hn6:a<6:=by
   unfold eO at C2
   have:=(bl (cL.1 C2).1).2
   omega
  have hz:(dS a b.2.2.2.1).sum=0:=by
   unfold ov at hf
   have D9:=bl (cL.1 hf).1 a.toNat (by unfold rT;omega)
   unfold tz du s4 at D9
   rw[hk,ak rfl,show((a.toNat:Nat):Int)=a by omega]at D9
   exact D9
  generalize fL b.2.2.2.1 0 a=q at*
  obtain⟨f,g1,g2,g3⟩:=Ke hk w.qs hh h4
  have afW:=Xz f (Q0 hs hz aim h3)
  have IK:=f.c.s
  rw[afW,jy]at IK
  have Y9:((jV b.2.2.2.1 a q).1.zip (yX (fM a q b.2.2.2.1))).map (·.1)=(jV b.2.2.2.1 a q).1:=List.map_fst_zip (by rw[LA];omega)
  have hsg:sg q (q.natAbs:Int)=q:=by unfold sg;split<;>omega
  have hzz: ∀x∈zc a q ((jV b.2.2.2.1 a q).1.zip (yX (fM a q b.2.2.2.1))),cE x.1 x.2.1∧aG (gJ x)∧mZ (gJ x):=λx hx=>by
   obtain⟨p,hp,rfl⟩:=LC hx
   obtain⟨i,hi,e⟩:=fC hp
   rw[wL]at hi
   have e':=XA (out:=(jV b.2.2.2.1 a q).1) (accs:=yX (fM a q b.2.2.2.1)) (i:=i) ω ω
   rw[aZ,bo (by rw[wL];omega)]at e'
   have ep:p=_:=e.symm.trans e'
   have hr:=g3 i ω
   rw[ep]
   refine⟨?_,anP hr.1 hr.2⟩
   have hm:(yX (fM a q b.2.2.2.1)).getD i 0∈yX (fM a q b.2.2.2.1):=by
    rw[aZ,bo ω];exact fg _
   obtain⟨y,hy,ey⟩:=cQ.1 hm
   have Jj:=uF hy
   have hpy:=(EF y Jj.1).1
   have g: ∀u v z:Int,cE u v→v=a→u=z→cE z a:=λu v z h e1 e2=>by rw[←e1,←e2];exact h
   exact g _ _ _ hpy Jj.2.2 ey
  refine⟨λx hx=> ?_,λx hx=> ?_,?_,λi=> ?_⟩
  ·rcases bm.1 hx with e|hx
   ·rw[e];show cE 0 a;unfold cE;omega
   ·exact(hzz x hx).1
  ·rcases bm.1 hx with e|hx
   ·rw[e];exact ahT hh
   ·exact(hzz x hx).2
  ·unfold aaN
   rw[aU]
   have:=Yw a q ((jV b.2.2.2.1 a q).1.zip (yX (fM a q b.2.2.2.1)))
   rw[wL]at this
   omega
  ·unfold aaN
   rw[ef]
   dsimp only
   by_cases e:a=i
   ·rw[ak e,cD,Rs,ak e,Y9,IK,hsg]
    show 0-q+q=0
    omega
   ·rw[ah e,Rs,ah e]
 ·rw[ah h4]at h
  exact absurd h h4
namespace Pure
end Pure
end VM
end
section
namespace VM
open Go VM.F
variable(N:Nat)
theorem abC{c:ae}{b:aq}(hR:RB c b)(w:ow b){a:Int}(ha:0≤a∧n0 a c.1.length)(h:(vG c b a).2=0):SB c b.2.1 (vG c b a).1∧(vG c b a).1.length≤65:=by
 have I:=Yx (oF.2 hR) w h
 refine⟨⟨λx hx=>(I.q x hx).1,λx hx=>⟨I.place x hx,?_⟩,I.flat⟩,I.len⟩
 have pos: ∀y∈b.2.2.2.1,du y.1 0∨qG b.2.1 y.1:=λy hy=>(hR.sk y hy).1
 unfold vG at hx h
 rw[ak (oF.2 hR)]at hx h
 by_cases h1:a<0
 ·exact absurd ha.1 ω
 by_cases h2:(c.1.length:Int)≤a
 ·have:=ha.2;unfold n0 at this;omega
 rw[ah h1,ah h2]at hx h
 by_cases h3:fL b.2.2.2.1 0 a=0
 ·rw[ak h3]at hx;exact nomatch hx
 rw[ah h3]at hx h
 generalize fL b.2.2.2.1 0 a=q at*
 by_cases h4:(jV b.2.2.2.1 a q).2.2=0
 ·rw[ak h4]at hx
  rcases bm.1 hx with rfl|hx
  ·exact⟨.inl rfl,ha.2⟩
  ·obtain⟨p,hp,rfl⟩:=LC hx
   obtain⟨y,hy,e⟩:=cQ.1 (List.of_mem_zip hp).2
   refine⟨?_,ha.2⟩
   dsimp only
   rw[←e]
   exact pos y (uF hy).1
 ·rw[ah h4]at hx;exact nomatch hx
theorem abD(hN:5000000≤N){c:ae}{b:aq}{m:Nat}(hm:m≤7000)(hb:G m aL b)(hR:RB c b):Ok (J8 c b) (nQ N c b):=by
 have w:=(G.wf ω hb).w
 have hci:c.1.length≤6:=by
  have:=hR.c
  unfold eO at this
  exact(bl (cL.1 this).1).2
 unfold nQ nQ.b
 refine bH (dD N hN ω hb) (bx (λ_=>J8.bad δ) λ_=>bg (len:=c.1.length) (F:=λn i s=>nQ.l5 N n c b (bM,(dh,(cf,(cf,(dW,(eu,())))))) s i) (λi s=>SB c b.2.1 s∧s.length≤65*i) ⟨SB.nil,bA _⟩ ω (λn i s hi hI hr=> ?_) (λn s hI=> ?_))
 all_goals unfold nQ.l5 nQ.e8
 all_goals obtain⟨i1,i2⟩:=hI
 ·rw[ay (x:=(i:Int)+1) ω ω,ag i]
  exact ax (λ_=>bH (Yv N hN c w _) (bz (λh=>J8.bad h) λh=>have J:=abC hR w ⟨ω,show(i:Int)<c.1.length by omega⟩ h;aE ω (hr _ ⟨SB.app i1 J.1,by rw[aX];omega⟩))) λ_=>ω
 ·exact ax (λ_=>ω) λ_=>af (tg N ω ω hb hR i1 PB.nil ω (bA _)) λr hr=>an hr
end VM
end
