/- A part of the proof of WindDrawn of layer 21: what the functions compute, in plain words. -/
import Derived.Test.YtecmobijochjkaaGreatPlain3
import Derived.Test.YtecmobijochjkaaGreatPlain8
set_option linter.all false
section
namespace VM
open Go VM.F
theorem XT(N:Nat)(hN:4000000≤N){b:aq}{s e:au}(w:g8 b)(hr:ei b.2.2.1=true)(hs:cZ b.2.2.2.1=true)(lr:b.2.2.1.length≤90000)(ls:b.2.2.2.1.length≤90000)(qs:ec s)(lns:s.length≤100000)(qe:Bm e)(lne:e.length≤100000):
  xT N b s (e.map gR)=some (eI b s e):=by
 unfold xT eI
 rw[Fp N hN hs ls w.qs qs lns,RU N hN hr lr w.qr qe lne]
 unfold vm
 rw[ar,ar]
 cases dW Fq (fS b.2.2.2.1 s) jr with
 |none=>rfl
 |some s'=>
  cases dW aE (fS b.2.2.1 e) ni with
  |none=>rfl
  |some r'=>rfl
theorem NT{b:aq}{s e e':au}(h: ∀k n,cg k n e=cg k n e'):eI b s e=eI b s e':=by
 have:fS b.2.2.1 e=fS b.2.2.1 e':=by funext k n;unfold fS;rw[h]
 unfold eI;rw[this]
def BL(id x:Int):au:=[((5:Int),(id,((-x:Int),()))),((2:Int),((0:Int),(x,())))]
def NU(id y:Int):au:=[((2:Int),((0:Int),((- -y:Int),()))),((5:Int),(id,((-y:Int),())))]
def yQ(c:ae)(b:aq)(a:bX):Int:=if a.2.2.1=2 then(oU c b a.1).1 else 0
def vn(b:aq)(a:bX):Int:=gT b.2.2.1 5 a.1
def yR(y:Int):Int:=if 0<y then 0 else y
def lx(b:aq)(m:Int):aM→au
 |[]=>[]
 |a::t=>if a.2.1=m then xS a.1 (posOf b.2.2.2.1 a.1)++lx b m t else lx b m t
def pK(c:ae)(b:aq)(m:Int):aM→au
 |[]=>[]
 |a::t=>if a.2.1=m then BL a.1 (yQ c b a+yR (vn b a))++pK c b m t else pK c b m t
def pL(c:ae)(b:aq)(m:Int):aM→au
 |[]=>[]
 |a::t=>if a.2.1=m then((if a.2.2.1=2 then BL a.1 (yQ c b a)else [])++(if vn b a<0 then NU a.1 (vn b a)else []))++pL c b m t else pL c b m t
theorem rz(b:aq)(m:Int)(a:bX)(t:aM):lx b m (a::t)=if a.2.1=m then xS a.1 (posOf b.2.2.2.1 a.1)++lx b m t else lx b m t:=rfl
theorem uO(c:ae)(b:aq)(m:Int)(a:bX)(t:aM):pK c b m (a::t)=if a.2.1=m then BL a.1 (yQ c b a+yR (vn b a))++pK c b m t else pK c b m t:=rfl
theorem yS(c:ae)(b:aq)(m:Int)(a:bX)(t:aM):pL c b m (a::t)=if a.2.1=m then((if a.2.2.1=2 then BL a.1 (yQ c b a)else [])++(if vn b a<0 then NU a.1 (vn b a)else []))++pL c b m t else pL c b m t:=rfl
theorem aaW{c:ae}{b:aq}(w:g8 b)(a:bX):(vn b a≤0→yQ c b a=0)∧(0<vn b a→0≤yQ c b a∧yQ c b a≤vn b a):=by
 have G9:=uA (c:=c) (Fy w.qs a.1)
 unfold yQ vn
 by_cases h:a.2.2.1=2
 ·rw[aj h]
  unfold oU
  generalize gT b.2.2.1 5 a.1=m at*
  generalize qZ c (posOf b.2.2.2.1 a.1)=s at*
  have key:(m≤0→uB m s=0)∧(0<m→0≤uB m s∧uB m s≤m):=by
   unfold uB
   refine⟨λh=>aj h,λh=> ?_⟩
   rw[ah ω]
   split<;>omega
  split
  ·split
   ·exact key
   ·exact⟨λ_=>rfl,λh=>⟨fE _,by show(0:Int)≤m;omega⟩⟩
  ·exact⟨λ_=>rfl,λh=>⟨fE _,by show(0:Int)≤m;omega⟩⟩
 ·rw[ah h]
  exact⟨λ_=>rfl,λh=>⟨fE _,ω⟩⟩
theorem KO{b:aq}(w:g8 b)(a:bX):aE (vn b a):=Aq w.qr 5 a.1
theorem BM{c:ae}{b:aq}(w:g8 b)(a:bX):aE (yQ c b a+yR (vn b a))∧aE (yQ c b a):=by
 have h:=aaW (c:=c) w a
 have hm:=KO w a
 unfold yR aE at*
 by_cases h0:0<vn b a
 ·rw[aj h0];have:=h.2 h0;omega
 ·rw[ah h0];have:=h.1 ω;omega
theorem Sn(k n id x:Int):cg k n (BL id x)=(if 5=k∧id=n then-x else 0)+(if 2=k∧0=n then x else 0):=by
 unfold BL
 rw[fv,fv,tq]
 show(if 5=k∧id=n then-x else 0)+((if 2=k∧0=n then x else 0)+0)=_
 omega
theorem aaX(k n id y:Int):cg k n (NU id y)=(if 2=k∧0=n then y else 0)+(if 5=k∧id=n then-y else 0):=by
 unfold NU
 rw[fv,fv,tq]
 show(if 2=k∧0=n then- -y else 0)+((if 5=k∧id=n then-y else 0)+0)=_
 rw[zt];omega
theorem Jd{c:ae}{b:aq}(w:g8 b)(m k n:Int): ∀t:aM,cg k n (pK c b m t)=cg k n (pL c b m t)
 |[]=>rfl
 |a::t=>by
  have ih:=Jd (c:=c) w m k n t
  rw[uO,yS]
  by_cases h:a.2.1=m
  ·rw[aj h,aj h,pY,pY,pY,ih,Sn]
   congr 1
   have h1:cg k n (if a.2.2.1=2 then BL a.1 (yQ c b a)else [])=(if 5=k∧a.1=n then-yQ c b a else 0)+(if 2=k∧0=n then yQ c b a else 0):=by
    by_cases h2:a.2.2.1=2
    ·rw[aj h2,Sn]
    ·have e:yQ c b a=0:=by unfold yQ;exact ah h2
     rw[ah h2,tq,e];split<;>split<;>rfl
   have h2:cg k n (if vn b a<0 then NU a.1 (vn b a)else [])=(if 5=k∧a.1=n then-yR (vn b a)else 0)+(if 2=k∧0=n then yR (vn b a)else 0):=by
    unfold yR
    by_cases h3:vn b a<0
    ·rw[aj h3,aaX,ah (show ¬0<vn b a by omega),Ep]
    ·rw[ah h3,tq]
     have e:(if 0<vn b a then 0 else vn b a)=0:=by split<;>omega
     rw[e];split<;>split<;>rfl
   rw[h1,h2]
   generalize yQ c b a=x
   generalize yR (vn b a)=y
   by_cases hP:5=k∧a.1=n
   ·rw[aj hP,aj hP,aj hP]
    by_cases hQ:2=k∧0=n
    ·rw[aj hQ,aj hQ,aj hQ];omega
    ·rw[ah hQ,ah hQ,ah hQ];omega
   ·rw[ah hP,ah hP,ah hP]
    by_cases hQ:2=k∧0=n
    ·rw[aj hQ,aj hQ,aj hQ];omega
    ·rw[ah hQ,ah hQ,ah hQ];omega
  ·rw[ah h,ah h];exact ih
theorem uP{a:aM}(h:fu a=true):a.length≤24∧ ∀x∈a,1≤x.1∧x.1≤24:=by
 unfold fu at h
 rw[gg]at h
 have h':=bz h
 have rng: ∀i,i<a.length→1≤(a.getD i aV).1∧(a.getD i aV).1≤24:=λi hi=>(h' i hi).1.1
 have inc: ∀i,i<a.length→(i:Int)+1≤(a.getD i aV).1:=by
  intro i
  induction i with
  |zero=>intro hi;exact(rng 0 hi).1
  |succ i ih=>
   intro hi
   have p:=ih ω
   have q:=(h' (i+1) hi).2.1 ω
   rw[Nat.add_sub_cancel]at q
   have g: ∀x y:Int,(i:Int)+1≤x→x<y→((i+1:Nat):Int)+1≤y:=λx y _ _=>ω
   exact g _ _ p q
 refine⟨?_,λx hx=> ?_⟩
 ·by_cases h0:a.length=0
  ·omega
  ·have p:=inc (a.length-1) ω
   have q:=(rng (a.length-1) ω).2
   have g: ∀x:Int,((a.length-1:Nat):Int)+1≤x→x≤24→a.length≤24:=λx _ _=>ω
   exact g _ p q
 ·obtain⟨i,hi,e⟩:=gd hx
  have:=rng i hi
  rw[aU,bm hi]at this
  rw[←e];exact this
theorem NV{a:Int}{x:db}: ∀{t:aD},x∈xS a t→ ∃y∈t,x=(a,(y.1,((0-y.2.1:Int),())))∨x=((0:Int),(y.1,(y.2.1,())))
 |[],hx=>nomatch hx
 |y::t,hx=>by
  rw[tv]at hx
  rcases aX.1 hx with e|hx
  ·exact⟨y,bn ..,Or.inl e⟩
  ·rcases aX.1 hx with e|hx
   ·exact⟨y,bn ..,Or.inr e⟩
   ·obtain⟨y',hy,e⟩:=NV hx
    exact⟨y',a6 _ hy,e⟩
theorem Je(a i:Int): ∀t:aD,(c5 i (xS a t)).sum=0
 |[]=>rfl
 |y::t=>by
  have ih:=Je a i t
  rw[tv,df,df]
  dsimp only
  by_cases e:y.1=i
  ·rw[aj e,aj e,cy,cy,ih]
   have g: ∀v:Int,0-v+(v+0)=0:=λv=>ω
   exact g y.2.1
  ·rw[ah e,ah e];exact ih
theorem Jf(b:aq)(hg: ∀a,Ft (posOf b.2.2.2.1 a))(m:Int): ∀t:aM,(lx b m t).length≤12*t.length
 |[]=>aG _
 |a::t=>by
  have ih:=Jf b hg m t
  have:=(hg a.1).len
  rw[rz,aR]
  split
  ·rw[aS,wJ];omega
  ·omega
theorem BN{b:aq}{m:Int}{x:db}: ∀{t:aM},x∈lx b m t→ ∃a∈t,x∈xS a.1 (posOf b.2.2.2.1 a.1)
 |[],h=>nomatch h
 |a::t,h=>by
  rw[rz]at h
  by_cases e:a.2.1=m
  ·rw[aj e]at h
   rcases bb.1 h with h|h
   ·exact⟨a,bn ..,h⟩
   ·obtain⟨a',ha,h'⟩:=BN h
    exact⟨a',a6 _ ha,h'⟩
  ·rw[ah e]at h
   obtain⟨a',ha,h'⟩:=BN h
   exact⟨a',a6 _ ha,h'⟩
theorem Gi(b:aq)(m i:Int): ∀t:aM,(c5 i (lx b m t)).sum=0
 |[]=>rfl
 |a::t=>by
  have ih:=Gi b m i t
  rw[rz]
  split
  ·rw[yj,lH,Je,ih];rfl
  ·exact ih
theorem Gj{b:aq}(m:Int)(hk:cZ b.2.2.2.1=true)(hq:ec b.2.2.2.1)(ha:fu b.2.1=true):Wi (lx b m b.2.1):=by
 have hg:=λa=>As hk hq a
 obtain⟨h24,bg⟩:=uP ha
 have lK: ∀p q:Int,1≤p→p≤24→Cu q→bI p q∧bI 0 q:=λp q h1 h2 h3=>by unfold Cu at h3;unfold bI;omega
 have key: ∀x∈lx b m b.2.1,bI x.1 x.2.1∧aE (dZ x)∧pU (dZ x):=λx hx=>by
  obtain⟨a,ha,hx⟩:=BN hx
  obtain⟨y,hy,e|e⟩:=NV hx
  ·rw[e];exact⟨(lK _ _ (bg a ha).1 (bg a ha).2 ((hg a.1).inst y hy)).1,TH ((hg a.1).q y hy)⟩
  ·rw[e];exact⟨(lK _ _ (bg a ha).1 (bg a ha).2 ((hg a.1).inst y hy)).2,(hg a.1).q y hy⟩
 exact⟨λx hx=>(key x hx).1,λx hx=>(key x hx).2,by have:=Jf b hg m b.2.1;omega,λi=>Gi b m i b.2.1⟩
theorem xE{c:ae}{b:aq}{m:Int}{x:db}: ∀{t:aM},x∈pK c b m t→ ∃a∈t,x∈BL a.1 (yQ c b a+yR (vn b a))
 |[],h=>nomatch h
 |a::t,h=>by
  rw[uO]at h
  by_cases e:a.2.1=m
  ·rw[aj e]at h
   rcases bb.1 h with h|h
   ·exact⟨a,bn ..,h⟩
   ·obtain⟨a',ha,h'⟩:=xE h
    exact⟨a',a6 _ ha,h'⟩
  ·rw[ah e]at h
   obtain⟨a',ha,h'⟩:=xE h
   exact⟨a',a6 _ ha,h'⟩
theorem Jg(c:ae)(b:aq)(m:Int): ∀t:aM,(pK c b m t).length≤2*t.length∧((pK c b m t).map dZ).sum=0
 |[]=>⟨aG _,rfl⟩
 |a::t=>by
  have ih:=Jg c b m t
  rw[uO,aR]
  split
  ·refine⟨?_,?_⟩
   ·rw[aS,show(BL a.1 (yQ c b a+yR (vn b a))).length=2 from rfl];omega
   ·rw[cW,lH,ih.2]
    show-(yQ c b a+yR (vn b a))+((yQ c b a+yR (vn b a))+0)+0=0
    omega
  ·exact⟨ω,ih.2⟩
theorem QL{x:Int}(h:aE x):dm (-x):=by unfold aE at h;unfold dm;omega
theorem QM{c:ae}{b:aq}(w:g8 b)(m:Int)(ha:fu b.2.1=true):Wo (pK c b m b.2.1):=by
 obtain⟨h24,bg⟩:=uP ha
 have hl:=Jg c b m b.2.1
 have S3: ∀p:Int,1≤p→p≤24→cQ 5 p:=λp h1 h2=>by unfold cQ;omega
 refine⟨λx hx=> ?_,λx hx=> ?_,ω,hl.2⟩
 ·obtain⟨a,ha,hx⟩:=xE hx
  rcases aX.1 hx with e|hx
  ·rw[e];exact S3 _ (bg a ha).1 (bg a ha).2
  ·rw[bT.1 hx];show cQ 2 0;decide
 ·obtain⟨a,ha,hx⟩:=xE hx
  rcases aX.1 hx with e|hx
  ·rw[e];exact QL (BM w a).1
  ·rw[bT.1 hx];exact qX (BM w a).1
theorem Jh{c:ae}{b:aq}(w:g8 b)(m:Int): ∀t:aM,(pL c b m t).length≤4*t.length∧Bm (pL c b m t)
 |[]=>⟨aG _,λx hx=>nomatch hx⟩
 |a::t=>by
  have ih:=Jh (c:=c) w m t
  rw[yS,aR]
  by_cases h:a.2.1=m
  ·rw[aj h]
   have l1:(if a.2.2.1=2 then BL a.1 (yQ c b a)else []).length≤2:=by
    split
    ·exact aG 2
    ·exact bo _
   have l2:(if vn b a<0 then NU a.1 (vn b a)else []).length≤2:=by
    split
    ·exact aG 2
    ·exact bo _
   refine⟨by rw[aS,aS];omega,λx hx=> ?_⟩
   rcases bb.1 hx with hx|hx
   ·rcases bb.1 hx with hx|hx
    ·split at hx
     ·rcases aX.1 hx with e|hx
      ·rw[e];exact QL (BM w a).2
      ·rw[bT.1 hx];exact qX (BM (c:=c) w a).2
     ·nomatch hx
    ·split at hx
     ·rcases aX.1 hx with e|hx
      ·rw[e];show dm (- -vn b a);rw[zt];exact qX (KO w a)
      ·rw[bT.1 hx];exact QL (KO w a)
     ·nomatch hx
   ·exact ih.2 x hx
  ·rw[ah h];exact⟨ω,ih.2⟩
end VM
end
section
namespace VM
open Go VM.F
theorem CK{c:ae}{b:aq}(h:dx c b=true):fu b.2.1=true:=by
 unfold dx at h
 have h1:=(cN.1 (cN.1 h).2).1
 unfold pq at h1
 exact(cN.1 (cN.1 h1).2).1
def pF(c:ae)(b:aq)(m:Int):aq×Int:=
 if dx c b then(if fZ b.1 m=0 then((cm,(c8,(bH,(bH,(dC,(dP,())))))),3)else eI b (lx b m b.2.1) (pK c b m b.2.1))else((cm,(c8,(bH,(bH,(dC,(dP,())))))),1)
theorem KP(N:Nat)(hN:4000000≤N)(c:ae){b:aq}(w:xu b)(m:Int):sM N c b m=some (pF c b m):=by
 unfold sM sM.b pF
 rw[RL N hN w.w,ar,Bj N w.w.m ω,ar,cond_not,aN]
 by_cases hB:dx c b=false
 ·rw[hB];rfl
 rw[Ef]at hB
 rw[hB,ak,aj rfl]
 by_cases hS:fZ b.1 m=0
 ·rw[aj hS,aj hS]
 rw[ah hS,ah hS]
 obtain⟨hr,hs⟩:=gk hB
 have ha:=CK hB
 obtain⟨h24,bg⟩:=uP ha
 have gs:=Gj m hs w.w.qs ha
 have ge:=QM (c:=c) w.w m ha
 have hls:=gs.len
 have hle:=ge.len
 have:=nV b.2.1 aV (λn i (z:au×au)=>sM.l8 N n m c b (cm,(c8,(bH,(bH,(dC,(dP,())))))) z.1 (z.2.map jK) b.2.1 (b.2.1.length:Int) i) (λt z=>some (eI b (lx b m b.2.1) (pK c b m b.2.1)))
  (λi z=>z.1++lx b m (b.2.1.drop i)=lx b m b.2.1∧z.2++pK c b m (b.2.1.drop i)=pK c b m b.2.1)
  (λn i z hi hI wx=> ?_) (λn z hI=> ?_) b.2.1.length N 0 ([],[]) ω ω ω ⟨rfl,rfl⟩
 ·exact this
 ·unfold sM.l8 sM.xR sM.UR sM.Nq
  obtain⟨i1,i2⟩:=hI
  have z1:z.1.length≤400:=by rw[←i1,aS]at hls;omega
  have z2:z.2.length≤400:=by rw[←i2,aS]at hle;omega
  have hm:b.2.1.getD i aV∈b.2.1:=by
   rw[aU,bm hi];exact dz hi
  rw[drop_cons hi aV,rz]at i1
  rw[drop_cons hi aV,uO]at i2
  have hai:=bg _ hm
  rw[aJ]
  generalize b.2.1.getD i aV=a at*
  have hx:=(BM (c:=c) w.w a).1
  have oL:=hx
  unfold aE at oL
  have G8:=(As hs w.w.qs a.1).len
  rw[aT ω,ak,aW ω ω,ak,ax (x:=(i:Int)+1) ω ω,ag i,cond_not,aN]
  by_cases h1:a.2.1=m
  ·rw[aj h1]at i1 i2
   have fin: ∀k:Int,k=yQ c b a→((Bq N b.2.2.1 5 a.1).bind λr7=>(UP N (W .i64 (k+(mn r7 0)))).bind λkK=>(F66 N kK).bind λnI=>(Cw N b.2.2.2.1 a.1 (0:Int)).bind λoE=>cond (small (List.length z.1+List.length oE)) (cond (small (List.length (z.2.map jK)+List.length ([((5:Int),(a.1,(nI.1,()))),((2:Int),((0:Int),(kK,())))]))) (sM.l8 N n m c b (cm,(c8,(bH,(bH,(dC,(dP,())))))) (z.1++oE) (z.2.map jK++([((5:Int),(a.1,(nI.1,()))),((2:Int),((0:Int),(kK,())))])) b.2.1 (b.2.1.length:Int) ((i+1:Nat):Int)) (none)) (none))=some (eI b (lx b m b.2.1) (pK c b m b.2.1)):=λk hk=>by
    subst hk
    have e:W .i64 (yQ c b a+mn (gT b.2.2.1 5 a.1) 0)=yQ c b a+yR (vn b a):=by
     have:mn (gT b.2.2.1 5 a.1) 0=yR (vn b a):=by rw[Q6];rfl
     rw[this,ax oL.1 oL.2]
    rw[RW N w.w.r ω,ar,e,wv N oL.1 oL.2,ar,Z4 N hx,ar,ahI N ω w.w.s hs w.w.qs hai.1 hai.2,ar,bL (by rw[wJ];omega),ak,bL (by rw[cv,aR,aI];omega),ak]
    have:=wx (z.1++xS a.1 (posOf b.2.2.2.1 a.1),z.2++BL a.1 (yQ c b a+yR (vn b a))) ⟨by rw[←i1,br],by rw[←i2,br]⟩
    rw[cW]at this
    exact this
   rw[aj h1,aN]
   by_cases h2:a.2.2.1=2
   ·rw[aj h2,Bt N hN c w.w,ar]
    exact fin _ (by unfold yQ;rw[aj h2])
   ·rw[ah h2]
    exact fin 0 (by unfold yQ;rw[ah h2])
  ·rw[ah h1]at i1 i2
   rw[ah h1]
   exact wx z ⟨i1,i2⟩
 ·unfold sM.l8 sM.xR
  obtain⟨i1,i2⟩:=hI
  rw[mM]at i1 i2
  have e1:z.1=lx b m b.2.1:=by rw[←i1];exact(ch _).symm
  have e2:z.2=pK c b m b.2.1:=by rw[←i2];exact(ch _).symm
  rw[aP ω,av,e1,e2,Wt N ω w.w hr hs w.r w.s gs ge,ar]
theorem XU(N:Nat)(hN:5000000≤N)(c:ae){b:aq}(w:xu b)(m:Int):mF N c b m=some (pF c b m):=by
 unfold mF mF.b pF Hz
 rw[Ae N hN w.w,ar,nX N w.w.m ω,ar,ar,cond_not,aN]
 by_cases hB:dx c b=false
 ·rw[hB];rfl
 rw[Ef]at hB
 rw[hB,ak,aj rfl]
 by_cases hS:fZ b.1 m=0
 ·rw[aj hS,aj hS]
 rw[ah hS,ah hS]
 obtain⟨hr,hs⟩:=gk hB
 have ha:=CK hB
 obtain⟨h24,bg⟩:=uP ha
 have gs:=Gj m hs w.w.qs ha
 have gp:=Jh (c:=c) w.w m b.2.1
 have hls:=gs.len
 have Iq:(pL c b m b.2.1).length≤400:=ω
 rw[NT (Jd w.w m · · b.2.1)]
 have:=nV b.2.1 aV (λn i (z:au×au)=>mF.l8 N n m c b (cm,(c8,(bH,(bH,(dC,(dP,())))))) z.1 (z.2.map gR) i) (λt z=>some (eI b (lx b m b.2.1) (pL c b m b.2.1)))
  (λi z=>z.1++lx b m (b.2.1.drop i)=lx b m b.2.1∧z.2++pL c b m (b.2.1.drop i)=pL c b m b.2.1)
  (λn i z hi hI wx=> ?_) (λn z hI=> ?_) b.2.1.length N 0 ([],[]) ω ω ω ⟨rfl,rfl⟩
 ·exact this
 ·unfold mF.l8 mF.xR mF.AU mF.uI
  obtain⟨i1,i2⟩:=hI
  have z1:z.1.length≤400:=by rw[←i1,aS]at hls;omega
  have z2:z.2.length≤400:=by rw[←i2,aS]at Iq;omega
  have hm:b.2.1.getD i aV∈b.2.1:=by
   rw[aU,bm hi];exact dz hi
  rw[drop_cons hi aV,rz]at i1
  rw[drop_cons hi aV,yS]at i2
  have hai:=bg _ hm
  rw[aJ]
  generalize b.2.1.getD i aV=a at*
  have hx:=(BM (c:=c) w.w a).2
  have oL:=hx
  unfold aE at oL
  have Xk:=KO w.w a
  have XV:=Xk
  unfold aE at XV
  have G8:=(As hs w.w.qs a.1).len
  rw[aT ω,ak,aW ω ω,ak,ax (x:=(i:Int)+1) ω ω,ag i,cond_not,aN]
  by_cases h1:a.2.1=m
  ·rw[aj h1]at i1 i2
   have fin: ∀q:au,q.length≤1000→q++((if vn b a<0 then NU a.1 (vn b a)else [])++pL c b m (b.2.1.drop (i+1)))=pL c b m b.2.1→((Hr N b a.1).bind λkK=>cond (aY kK 0) ((jN N kK).bind λnI=>(Tk N nI).bind λoE=>(xU N (2:Int) (0:Int) (5:Int) a.1 oE).bind λqm=>cond (small (List.length (q.map gR)+List.length qm)) ((iL N b.2.2.2.1 a.1 (0:Int)).bind λwY=>cond (small (List.length z.1+List.length wY)) (mF.l8 N n m c b (cm,(c8,(bH,(bH,(dC,(dP,())))))) (z.1++wY) (q.map gR++qm) ((i+1:Nat):Int)) (none)) (none)) ((iL N b.2.2.2.1 a.1 (0:Int)).bind λu6=>cond (small (List.length z.1+List.length u6)) (mF.l8 N n m c b (cm,(c8,(bH,(bH,(dC,(dP,())))))) (z.1++u6) (q.map gR) ((i+1:Nat):Int)) (none)))=some (eI b (lx b m b.2.1) (pL c b m b.2.1)):=λq hq A7=>by
    have fq:=Fit.i64 XV.1 XV.2
    rw[Iz N w.w ω,ar,show gT b.2.2.1 5 a.1=vn b a from rfl,c4 N ω XV.1 XV.2,ar,jo N ω (fq.mono ω),ar,Z8 N ω w.w.s hs w.w.qs hai.1 hai.2,ar,cO]
    unfold xU
    rw[jo N ω ((Fit.neg fq).mono ω),ar,ar,bL (n:=z.1.length+_) (by rw[wJ];omega),ak,bL (by rw[cv,aR,aI];omega),ak,ar,bL (n:=z.1.length+_) (by rw[wJ];omega),ak]
    by_cases h3:vn b a<0
    ·rw[aj h3]at A7 ⊢
     have:=wx (z.1++xS a.1 (posOf b.2.2.2.1 a.1),q++NU a.1 (vn b a)) ⟨by rw[←i1,br],by rw[←A7,br]⟩
     rw[cW]at this
     exact this
    ·rw[ah h3]at A7 ⊢
     exact wx (z.1++xS a.1 (posOf b.2.2.2.1 a.1),q) ⟨by rw[←i1,br],A7⟩
   rw[aj h1,aN]
   by_cases h2:a.2.2.1=2
   ·rw[aj h2]at i2
    have fk:=Fit.i64 oL.1 oL.2
    have ek:(oU c b a.1).1=yQ c b a:=by unfold yQ;rw[aj h2]
    rw[aj h2,FB N hN c w.w,ar,ek,c4 N ω oL.1 oL.2,ar]
    unfold xU at*
    rw[jo N ω (fk.mono ω),ar,ar,bL (by rw[cv,aR,aI];omega),ak]
    have:=fin (z.2++BL a.1 (yQ c b a)) (by rw[aS,show(BL a.1 (yQ c b a)).length=2 from rfl];omega) (by rw[←i2];simp only[br])
    rw[cW]at this
    exact this
   ·rw[ah h2]at i2
    rw[ah h2]
    exact fin z.2 ω (by rw[←i2];simp only[br,cI])
  ·rw[ah h1]at i1 i2
   rw[ah h1]
   exact wx z ⟨i1,i2⟩
 ·unfold mF.l8 mF.xR
  obtain⟨i1,i2⟩:=hI
  rw[mM]at i1 i2
  have e1:z.1=lx b m b.2.1:=by rw[←i1];exact(ch _).symm
  have e2:z.2=pL c b m b.2.1:=by rw[←i2];exact(ch _).symm
  rw[aP ω,av,e1,e2,XT N ω w.w hr hs w.r w.s (λx hx=>(gs.q x hx).1) ω gp.2 ω,ar]
end VM
end
section
namespace VM
open Go VM.F Go.RowKit
theorem Gk{c:ae}{b:aq}(w:g8 b)(m:Int):WE (pF c b m).1:=by
 unfold pF
 split
 ·split
  ·exact xv
  ·exact M7 w _ _
 ·exact xv
theorem XW(N:Nat)(hN:5000000≤N)(c:ae){b:aq}(w:xu b)(acc m:Int):F19 N c b acc m=some true:=by
 unfold F19
 have sh:=Gk (c:=c) w.w m
 rw[Bt N ω c w.w,ar,FB N hN c w.w,ar,KP N ω c w,ar,XU N hN c w,ar,fK,ak,fK,ak,fK,ak,WD N ω sh.m sh.a sh.r sh.s sh.p sh.o,ar]
def wC:ae:=([((0:Int),((100:Int),((2:Int),((3:Int),()))))],((0:Int),((0:Int),((0:Int),((0:Int),((1:Int),((0:Int),())))))))
def wR:au:=[((1:Int),((0:Int),((-10:Int),()))),((5:Int),((1:Int),((-10:Int),()))),((5:Int),((2:Int),((20:Int),())))]
def wS:au:=[((1:Int),((0:Int),((1:Int),()))),((2:Int),((0:Int),((5:Int),()))),((3:Int),((0:Int),((-6:Int),())))]
def wB:aq:=([((1:Int),((3:Int),())),((2:Int),((1:Int),()))],([((1:Int),((1:Int),((1:Int),((0:Int),())))),((2:Int),((1:Int),((2:Int),((0:Int),())))),((3:Int),((2:Int),((1:Int),((0:Int),()))))],(wR,(wS,([(100:Int)],(dP,()))))))
theorem wW:xu wB:=⟨⟨δ,δ,δ,δ,δ,δ,DR (l:=wR) δ,DR (l:=wS) δ⟩,δ,δ⟩
theorem wCh:oU wC wB 2=(15,0):=κ
theorem wW1:(pF wC wB 1).2=0:=κ
theorem wW9:(pF wC wB 9).2=3:=κ
theorem wH0:fx (pF wC wB 1).1.2.2.2.1 0 0=6:=κ
theorem wG1:gT (pF wC wB 1).1.2.2.1 5 1=0:=κ
theorem wG2:gT (pF wC wB 1).1.2.2.1 5 2=5:=κ
theorem wG0:gT (pF wC wB 1).1.2.2.1 2 0=5:=κ
theorem Uw(N:Nat)(hN:5000000≤N):F15 N=some true:=by
 unfold F15 F56
 rw[ar]
 show(F31 N wC wB 2).bind _=_
 rw[Bt N ω wC wW.w,ar,wCh]
 show(sM N wC wB 1).bind _=_
 rw[KP N ω wC wW,ar]
 show(sM N wC wB 9).bind _=_
 rw[KP N ω wC wW,ar]
 have sh:=Gk (c:=wC) wW.w 1
 rw[DQ N sh.s ω,ar,Bp N sh.r ω,ar,Bp N sh.r ω,ar,Bp N sh.r ω,ar,wW1,wW9,wH0,wG1,wG2,wG0]
 simp only[fK,ak]
namespace Pure
end Pure
end VM
end
section
namespace VM
open Go VM.F Go.RowKit
namespace Pure
theorem Ux(l:List Int)(h:WFs [.slice (.int .u64)] l): ∃N,F3 N l=some true:=by
 have key:Ok (λr=>r=true) (F3 6000000 l):=by
  unfold F3 F3.b F16
  refine bA (Uw 6000000 ω) (bt (λh=>nomatch h) λ_=>bA rfl (af (Uq 6000000 ω (aaI h.1)) λc ⟨hc,hd⟩=>af (XS 6000000 ω hc hd ω) λs ⟨⟨hs,_⟩,hd⟩=> ?_))
  have w:=G.wf ω hs.2.2.1
  refine bc (len:=6) (F:=λn i (z:aL)=>F3.l7 6000000 n z c.1 s.1.2.2.1 i) (λi z=>Dk (10000+i) z) (Dk.mono hd ω) ω (λn i z hi hI hr=> ?_) (λn z hI=> ?_)
  all_goals unfold F3.l7 F3.pj
  ·rw[ax (x:=(i:Int)+1) ω ω,ag i]
   exact aw (λ_=>af (im 6000000 δ hI (by unfold jM;omega)) λa ⟨_,hd⟩=>bA (XW 6000000 ω c.1 w _ _) (bt (λh=>nomatch h) λ_=>hr _ (Dk.mono hd ω))) λ_=>ω
  ·exact aw (λ_=>ω) λ_=>an rfl
 obtain⟨r,e,hr⟩:=key
 exact⟨6000000,by rw[e,hr]⟩
end Pure
end VM
end
