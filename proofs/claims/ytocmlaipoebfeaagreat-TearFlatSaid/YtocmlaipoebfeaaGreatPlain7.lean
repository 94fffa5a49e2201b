/- A part of the proof of TearFlat of layer 29: what the functions compute, in plain words. -/
import Derived.Test.YtocmlaipoebfeaaGreatPlain6
import Derived.Test.YtocmlaipoebfeaaGreatPlain4
set_option linter.all false
section
namespace VM
open Go VM.F
theorem N0(N:Nat)(s:aU)(k:Int):Ok (λ_=>True) (aaW N s k):=by
 unfold aaW
 repeat' first|exact fg|refine ok_eq (λ_=> ?_) (λ_=> ?_)
theorem oL(N:Nat)(hN:200000≤N){s:aU}{m:Nat}(hm:m≤50000)(hs:GS m s)(k:Int):Ok (λ_=>True) (Gm N s k):=by
 unfold Gm
 exact af (oJ N hN hm hs.2.2.1.1 _) λ_ _=>fg
theorem XB(N:Nat)(hN:200000≤N){s:aU}{m:Nat}(hm:m≤50000)(hs:GS m s)(k:Int):Ok (λ_=>True) (QQ N s k):=by
 unfold QQ
 exact af (xR N hN hm hs.2.2.1.2.1 _) λ_ _=>fg
theorem aaX(N:Nat)(hN:4000000≤N){s:aU}{m:Nat}(h2:200≤m)(hm:m≤50000)(hs:GS m s)(a b c d:Int){q:Int}(hq:aH q):Ok (SR m) (N1 N s a b c d q):=by
 unfold N1
 exact af (bq N hN hq) λx hx=>af (sX N hN _ _ _ _ (Bg.mono hx ω)) λp hp=>af (sV N hN h2 hm hs.2.2.1 G.nil (jZ.mono hp ω)) λr hr=>an ⟨hs.1,hs.2.1,hr,hs.2.2.2⟩
theorem XC(N:Nat)(hN:5000000≤N){c:ag}{s:aU}{e:ia}{m:Nat}(h2:200≤m)(hm:m≤999)(hc:G 5 aB c)(hs:GS m s)(he:G 0 pv e):Ok (SR (m+1)) (pV N c s e):=by
 obtain⟨s1,s2,s3,⟨k1,k2,k3,k4,k5,k6,k7,k8,k9,Uo,XA⟩,s5⟩:=hs
 have hs:GS m s:=⟨s1,s2,s3,⟨k1,k2,k3,k4,k5,k6,k7,k8,k9,Uo,XA⟩,s5⟩
 have up: ∀{x:aU},GS m x→ ∀r:dd,Ok (SR (m+1)) (some (x,r)):=λh r=>an (P:=SR (m+1)) (G.mono (qT m) h)
 have i1:aH 1:=bA
 have us: ∀{τ:Ty} {x:τ.den},G m τ x→G (m+1) τ x:=λh=>G.mono ω h
 unfold pV pV.b
 have hj: ∀(S0:aU) (z:dd),Ok (SR (m+1)) (pV.Uh N c s e S0 z):=λS0 z=>by
  unfold pV.Uh pV.NV
  exact af (N0 N _ _) λ_ _=>bw (λ_=>c6 λr=>up hs r) λ_=>af (Xz N hN h2 hm hc hs he) λr hr=>an hr
 have mem: ∀{x:aG},G m (.slice ka) x→G m aJ ((x,s.2.2.1.2):aq):=λh=>⟨h,s3.2⟩
 have hd: ∀z:aG×Int,G m (.slice ka) z.1→Ok (SR (m+1)) (cond (aM z.2 0) (cond (aM e.1 11) ((KL N c (z.1,s.2.2.1.2) e.2.1).bind λr2=>cond (aM s.2.2.2.1.2.1 3) ((px N s.2.2.2.1.2.2.2.2.2.2.1 e.2.1).bind λr3=>(fF N z.2).bind λr4=>some ((s.1,(s.2.1,(r2.1,((s.2.2.2.1.1,(s.2.2.2.1.2.1,(s.2.2.2.1.2.2.1,(s.2.2.2.1.2.2.2.1,(s.2.2.2.1.2.2.2.2.1,(s.2.2.2.1.2.2.2.2.2.1,(r3,s.2.2.2.1.2.2.2.2.2.2.2))))))),s.2.2.2.2)))),r4)) ((fF N z.2).bind λr5=>some ((s.1,(s.2.1,(r2.1,s.2.2.2))),r5))) ((fF N z.2).bind λr6=>some ((s.1,(s.2.1,((z.1,s.2.2.1.2),s.2.2.2))),r6))) ((fF N z.2).bind λr7=>some ((s.1,(s.2.1,((z.1,s.2.2.1.2),s.2.2.2))),r7))):=λz hz=>
  ok_eq (λ_=>ok_eq (λ_=>af (NQ N hN c ω (mem hz) _) λb hb=>ok_eq (λ_=>af (C3 N ω ω k7 _) λl hl=>c6 λr=>an ⟨s1,s2,us hb,⟨k1,k2,k3,k4,us k5,us k6,us hl,us k8,us k9,us Uo,trivial⟩,us s5⟩) λ_=>c6 λr=>an ⟨s1,s2,us hb,(us hs).2.2.2⟩) λ_=>c6 λr=>an ⟨s1,s2,us (mem hz),(us hs).2.2.2⟩) λ_=>c6 λr=>an ⟨s1,s2,us (mem hz),(us hs).2.2.2⟩
 have Hr:=λk:Int=>KK N ω (m:=m) ω s3.1 e.2.1 k
 refine ok_eq (λ_=>af (Hr _) λz hz=>hd z hz) λ_=>ok_eq (λ_=>af (Hr _) λz hz=>hd z hz) λ_=>ok_eq (λ_=> ?_) λ_=>ok_eq (λ_=> ?_) λ_=>hj _ _
 ·exact af (oL N ω ω hs _) λ_ _=>ok_eq (λ_=>c6 λr=>up hs r) λ_=>bu (λ_=>c6 λr=>up hs r) λ_=>af (Hr _) λz hz=>bu (λ_=>c6 λr=>an ⟨s1,s2,us (mem hz),(us hs).2.2.2⟩) λ_=>af (uy N ω s1 hc.2.2.2.1) λt ht=>bw (λ_=>c6 λr=>an ⟨s1,s2,us (mem hz),(us hs).2.2.2⟩) λ_=>an ⟨s1,s2,us (mem hz),⟨he.2.1,i1,ht,bt,G.nil,G.nil,G.nil,G.nil,G.nil,G.nil,trivial⟩,us s5⟩
 ·exact af (oL N ω ω hs _) λ_ _=>ok_eq (λ_=>c6 λr=>up hs r) λ_=>af (oL N ω ω hs _) λ_ _=>bu (λ_=>c6 λr=>up hs r) λ_=>hj _ _
theorem aaY(N:Nat)(hN:5000000≤N){c:ag}{s:aU}{e:ia}{m:Nat}(h2:200≤m)(hm:m≤999)(hc:G 5 aB c)(hs:GS m s)(he:G 0 pv e):Ok (SR (m+1)) (Up N c s e):=by
 have D1:G m aB c:=G.mono ω hc
 obtain⟨s1,s2,s3,⟨k1,k2,k3,k4,k5,k6,k7,k8,k9,Uo,XA⟩,s5⟩:=hs
 have hs:GS m s:=⟨s1,s2,s3,⟨k1,k2,k3,k4,k5,k6,k7,k8,k9,Uo,XA⟩,s5⟩
 have us: ∀{τ:Ty} {x:τ.den},G m τ x→G (m+1) τ x:=λh=>G.mono ω h
 have RD:=us hs
 have up: ∀{x:aU},GS m x→ ∀r:dd,Ok (SR (m+1)) (some (x,r)):=λh r=>an (P:=SR (m+1)) (G.mono (qT m) h)
 have st:=λk:Int=>oL N ω (m:=m) ω hs k
 have hp:=λa b c d=>aaX N ω h2 ω hs a b c d he.2.2.2.2.2.2.1
 have Uq:=he.2.2.2.2.2.2.1
 unfold Up
 refine ok_eq (λ_=> ?_) λ_=>ok_eq (λ_=> ?_) λ_=>ok_eq (λ_=> ?_) λ_=>ok_eq (λ_=> ?_) λ_=>ok_eq (λ_=> ?_) λ_=>ok_eq (λ_=> ?_) λ_=>ok_eq (λ_=> ?_) λ_=>ok_eq (λ_=> ?_) λ_=>ok_eq (λ_=> ?_) λ_=>ok_eq (λ_=> ?_) λ_=>ok_eq (λ_=> ?_) λ_=>af (XC N hN h2 hm hc hs he) λr hr=>an hr
 ·exact af (Xi N ω ω s3.1 he.2.1) λr hr=>c6 λ_=>an ⟨s1,s2,⟨hr,RD.2.2.1.2⟩,RD.2.2.2⟩
 ·have hx:G 0 eR (e.2.2.1,(e.2.1,(e.2.2.2.2.1,((0:Int),())))):=⟨he.2.2.1,he.2.1,he.2.2.2.2.1,bt,trivial⟩
  exact af (aaG N ω ω s3.1 s3.2.1 hx) λr hr=>c6 λ_=>an ⟨s1,s2,⟨RD.2.2.1.1,hr,RD.2.2.1.2.2⟩,RD.2.2.2⟩
 ·exact af (XB N ω ω hs _) λ_ _=>bw (λ_=>c6 λr=>up hs r) λ_=>af (hp _ _ _ _) λr hr=>an (us hr)
 ·exact af (NS N hN h2 ω D1 s3 _ Uq) λr hr=>c6 λz=>an ⟨s1,s2,us hr,(us hs).2.2.2⟩
 ·exact af (st _) λ_ _=>ok_eq (λ_=>c6 λr=>up hs r) λ_=>af (st _) λ_ _=>bu (λ_=>c6 λr=>up hs r) λ_=>af (hp _ _ _ _) λr hr=>an (us hr)
 ·exact af (st _) λ_ _=>ok_eq (λ_=>c6 λr=>up hs r) λ_=>af (mD N ω ω s3.2.2.1 _ _) λg hg=>af (bq N ω hg) λx hx=>af (qE N ω ω hx) λx hx=>af (bq N ω Uq) λy hy=>af (pS N ω ω ω hy hx) λ_ _=>ax (λ_=>c6 λr=>up hs r) λ_=>af (hp _ _ _ _) λr hr=>an (us hr)
 ·exact af (Xj N ω ω s3.2.1 Uq) λr hr=>c6 λz=>an ⟨s1,s2,⟨us s3.1,us hr,(us s3).2.2⟩,(us hs).2.2.2⟩
 ·have hx:G 0 m6 (s.2.1,(e.2.2.1,(e.2.2.2.1,(e.2.2.2.2.1,(e.2.2.2.2.2.2.1,(e.2.2.2.2.2.2.2.1,())))))):=⟨s2,he.2.2.1,he.2.2.2.1,he.2.2.2.2.1,Uq,he.2.2.2.2.2.2.2.1,trivial⟩
  exact af (Xn N hN h2 ω D1 s3 hx) λr hr=>an ⟨s1,gN _,hr,RD.2.2.2⟩
 ·exact af (XB N ω ω hs _) λ_ _=>bw (λ_=>c6 λr=>up hs r) λ_=>af (T9 N ω ω s3.2.2.2.2.2.1 _ _) λr hr=>c6 λz=>an ⟨s1,s2,⟨us s3.1,us s3.2.1,us s3.2.2.1,us s3.2.2.2.1,us s3.2.2.2.2.1,us hr,trivial⟩,(us hs).2.2.2⟩
 ·exact af (C5 N hN c h2 ω s3 _ he.2.2.2.2.2.2.2.1) λr ⟨zf,zV⟩=>ok_eq (λ_=>bu (λ_=>af (NR N ω h2 ω Uo zV) λg hg=>c6 λz=>an ⟨s1,s2,us zf,⟨k1,k2,k3,k4,us k5,us k6,us k7,us k8,us k9,us hg,trivial⟩,us s5⟩) λ_=>c6 λz=>an ⟨s1,s2,us zf,(us hs).2.2.2⟩) λ_=>c6 λz=>an ⟨s1,s2,us zf,(us hs).2.2.2⟩
 ·exact af (uy N ω s1 Uq) λt ht=>bw (λ_=>c6 λr=>up hs r) λ_=>an ⟨ht,(us hs).2⟩
theorem aaZ(N:Nat)(hN:5000000≤N){c:ag}{s:aU}{e:ia}{m:Nat}(h2:200≤m)(hm:m≤999)(hc:G 5 aB c)(hs:GS m s)(he:G 0 pv e):Ok (SR (m+1)) (Ur N c s e):=by
 have cc: ∀r:dd,Ok (SR (m+1)) (some (s,r)):=λr=>an (P:=SR (m+1)) (G.mono (qT m) hs)
 unfold Ur
 exact bx (nG N ω c) (bw (λ_=>cc _) λ_=>af (Jc N ω e) λ_ _=>bw (λ_=>cc _) λ_=>af (aaY N hN h2 hm hc hs he) λr hr=>bu (λ_=>cc _) λ_=>an hr)
end VM
end
section
namespace VM
open Go VM.F Go.RowKit
theorem aa0{l:List Int}(h:WF (.slice (.int .u64)) l):Dk 0 ((l,((0:Int),())):bb):=⟨λx hx=>by
 obtain⟨i,hi,rfl⟩:=fX hx
 have h3:0≤l[i]∧l[i]≤18446744073709551615:=wf_u64.1 (h.2 i hi)
 exact⟨h3.1,wb h3.2 δ⟩,fx 0,fx 0⟩
namespace Pure
end Pure
end VM
end
section
namespace VM
open Go VM.F Go.RowKit
theorem tp{α:Type}{l:List α}{d:α}{i:Nat}(h:i<l.length):l.getD i d∈l:=by
 rw[aR,bl h];exact eL h
namespace Pure
end Pure
end VM
end
section
namespace VM
open Go VM.F Go.RowKit
theorem uz{P:Int→Prop} [DecidablePred P]{f:Int→Int→Int}: ∀{K:List cR} {o:au},ej P f K=some o→(o.map keyOf).Sublist K∧(∀x∈o,dW x=f x.1 x.2.1∧dW x≠0∧P (dW x))∧(∀k∈K,P (f k.1 k.2))∧ ∀a b,fB a b o=if(a,b)∈K then f a b else 0
 |[],o,h=>by
  have e:[]=o:=lE h
  subst e
  exact⟨List.Sublist.refl _,λx hx=>(nomatch hx),λk hk=>(nomatch hk),λa b=>by rw[ah (λh=>nomatch h)];rfl⟩
 |k::t,o,h=>by
  rw[jy]at h
  by_cases hp:P (f k.1 k.2)
  ·rw[aj hp]at h
   cases ho:ej P f t with
   |none=>rw[ho]at h;exact nomatch h
   |some o'=>
    rw[ho]at h
    have e:(if f k.1 k.2=0 then o' else(k.1,(k.2,(f k.1 k.2,())))::o')=o:=lE h
    obtain⟨s,g,gp,gf⟩:=uz ho
    have lM: ∀k'∈k::t,P (f k'.1 k'.2):=λk' hk=>by
     rcases aX.1 hk with rfl|hk
     ·exact hp
     ·exact gp k' hk
    by_cases h0:f k.1 k.2=0
    ·rw[aj h0]at e
     subst e
     refine⟨s.cons _,g,lM,λa b=> ?_⟩
     rw[gf a b]
     by_cases hk:(a,b)=k
     ·subst hk
      rw[aj (bp ..)]
      dsimp only at h0
      rw[h0];split<;>rfl
     ·by_cases ht:(a,b)∈t
      ·rw[aj ht,aj (a8 _ ht)]
      ·rw[ah ht,ah (λh=>(aX.1 h).elim hk ht)]
    ·rw[ah h0]at e
     subst e
     refine⟨s.cons_cons _,λx hx=> ?_,lM,λa b=> ?_⟩
     ·rcases aX.1 hx with rfl|hx
      ·exact⟨rfl,h0,hp⟩
      ·exact g x hx
     ·rw[fJ]
      dsimp only
      rw[gf a b]
      by_cases h1:k.1=a
      ·by_cases h2:k.2=b
       ·have hk:(a,b)=k:=by rw[←h1,←h2]
        rw[aj h1,aj h2,aj (by rw[hk];exact bp ..),h1,h2]
       ·have hk:(a,b)≠k:=λe=>h2 (by rw[←e])
        rw[aj h1,ah h2]
        by_cases ht:(a,b)∈t
        ·rw[aj ht,aj (a8 _ ht)]
        ·rw[ah ht,ah (λh=>(aX.1 h).elim hk ht)]
      ·have hk:(a,b)≠k:=λe=>h1 (by rw[←e])
       rw[ah h1]
       by_cases ht:(a,b)∈t
       ·rw[aj ht,aj (a8 _ ht)]
       ·rw[ah ht,ah (λh=>(aX.1 h).elim hk ht)]
  ·rw[ah hp]at h;exact nomatch h
theorem XD{l:au}(hs:sR (l.map keyOf)){j:Nat}(hj:j<l.length)(h0:0<j):td (keyOf (l.getD (j-1) bf)) (keyOf (l.getD j bf)):=by
 have:=p4.1 (tF.1 hs) (j-1) j ω hj ω
 rw[aR,aR,bl hj,bl (show j-1<l.length by omega)]
 exact this
theorem QR{l:au}(hs:sR (l.map keyOf))(h: ∀x∈l,bU x.1 x.2.1∧dW x≠0∧se (dW x)):da l=true:=by
 unfold da
 rw[gn]
 refine bs λj hj=> ?_
 obtain⟨a,b,c⟩:=h _ (tp (d:=bf) hj)
 exact⟨a,b,c,λh0=>XD hs hj h0⟩
theorem Us{l:au}(hs:sR (l.map keyOf))(h: ∀x∈l,cW x.1 x.2.1∧dW x≠0):eE l=true:=by
 unfold eE
 rw[gn]
 refine bs λj hj=> ?_
 obtain⟨a,b⟩:=h _ (tp (d:=bf) hj)
 exact⟨a,b,λh0=>XD hs hj h0⟩
theorem rU{a b:Int}:(a,b)∈kB↔bU a b:=by
 unfold kB bU
 rw[oG];dsimp only;omega
theorem Gn(b:aq)(s e:au):((eY b s e).2=2∧(eY b s e).1=(cw,(dh,(bK,(bK,(dV,(eh,())))))))∨ ∃s' r',ej Fq (fS b.2.2.2.1 s) kB=some s'∧ej aH (fS b.2.2.1 e) nO=some r'∧eY b s e=((b.1,(b.2.1,(r',(s',b.2.2.2.2)))),0):=by
 unfold eY
 cases h1:ej Fq (fS b.2.2.2.1 s) kB with
 |none=>exact .inl ⟨rfl,rfl⟩
 |some s'=>
  cases h2:ej aH (fS b.2.2.1 e) nO with
  |none=>exact .inl ⟨rfl,rfl⟩
  |some r'=>exact .inr ⟨s',r',rfl,rfl,rfl⟩
theorem Gp{l E o:au}(hs:da l=true)(h:ej Fq (fS l E) kB=some o):da o=true∧(∀a b,bU a b→bn o a b=bn l a b+bX a b E∧Fq (bn o a b)):=by
 obtain⟨h1,h2,h3,h4⟩:=uz h
 have hso:sR (o.map keyOf):=tE h1 (oH 6 25 0)
 have ho:da o=true:=QR hso λx hx=>by
  have hk:(x.1,x.2.1)∈kB:=h1.subset (eX (f:=keyOf) hx)
  obtain⟨_,g1,g2⟩:=h2 x hx
  exact⟨rU.1 hk,g1,g2.2⟩
 refine⟨ho,λa b hp=> ?_⟩
 have e:bn o a b=fS l E a b:=by
  unfold bn
  rw[ho,aj rfl,h4 a b,aj (rU.2 hp)]
 refine⟨?_,by rw[e];exact h3 _ (rU.2 hp)⟩
 rw[e]
 unfold fS bn
 rw[hs,aj rfl,oI (dw hs).1]
theorem xS{a b:Int}{l:au}(h:bX a b l≠0): ∃x∈l,x.1=a∧x.2.1=b:=
 zn λhn=>h (kA λx hx e=>hn ⟨x,hx,e⟩)
theorem aa1{l E o:au}(hs:eE l=true)(hE: ∀x∈E,cW x.1 x.2.1)(h:ej aH (fS l E) nO=some o):eE o=true∧(∀a b,cW a b→vL o a b=vL l a b+bX a b E∧aH (vL o a b)):=by
 obtain⟨h1,h2,h3,h4⟩:=uz h
 obtain⟨hl,s9⟩:=kC hs
 have hso:sR (o.map keyOf):=tE h1 (oH 25 7 1)
 have ho:eE o=true:=Us hso λx hx=>by
  obtain⟨g0,g1,g2⟩:=h2 x hx
  refine⟨?_,g1⟩
  rw[g0]at g1
  unfold fS at g1
  by_cases hz:bX x.1 x.2.1 l=0
  ·rw[hz,lH]at g1
   obtain⟨y,hy,e1,e2⟩:=xS g1
   rw[←e1,←e2];exact hE y hy
  ·obtain⟨y,hy,e1,e2⟩:=xS hz
   rw[←e1,←e2];exact s9 y hy
 refine⟨ho,λa b hk=> ?_⟩
 have hg:(a,b)∈nO:=by
  unfold nO
  rw[oG]
  unfold cW at hk
  dsimp only;omega
 have e:vL o a b=fS l E a b:=by
  unfold vL
  rw[ho,aj rfl,h4 a b,aj hg]
 refine⟨?_,by rw[e];exact h3 _ hg⟩
 rw[e]
 unfold fS vL
 rw[hs,aj rfl,oI hl]
end VM
end
section
namespace VM
open Go VM.F Go.RowKit
namespace Pure
end Pure
end VM
end
section
namespace VM
open Go VM.F Go.RowKit
namespace Pure
end Pure
end VM
end
section
namespace VM
open Go VM.F Go.RowKit
def HU(p:cR→Bool):au→Int
 |[]=>0
 |x::t=>(if p (keyOf x)=true then dW x else 0)+HU p t
def Gq(p:cR→Bool)(f:Int→Int→Int):List cR→Int
 |[]=>0
 |k::t=>(if p k=true then f k.1 k.2 else 0)+Gq p f t
theorem BZ(p:cR→Bool)(x:dd)(t:au):HU p (x::t)=(if p (keyOf x)=true then dW x else 0)+HU p t:=rfl
theorem qG(p:cR→Bool)(f:Int→Int→Int)(k:cR)(t:List cR):Gq p f (k::t)=(if p k=true then f k.1 k.2 else 0)+Gq p f t:=rfl
theorem Jj{P:Int→Prop} [DecidablePred P]{f:Int→Int→Int}(p:cR→Bool): ∀{K:List cR} {o:au},ej P f K=some o→HU p o=Gq p f K
 |[],o,h=>by
  have e:[]=o:=lE h
  subst e;rfl
 |k::t,o,h=>by
  rw[jy]at h
  by_cases hp:P (f k.1 k.2)
  ·rw[aj hp]at h
   cases ho:ej P f t with
   |none=>rw[ho]at h;exact nomatch h
   |some o'=>
    rw[ho]at h
    have e:(if f k.1 k.2=0 then o' else(k.1,(k.2,(f k.1 k.2,())))::o')=o:=lE h
    rw[qG,←Jj p ho]
    by_cases h0:f k.1 k.2=0
    ·rw[aj h0]at e
     rw[←e,h0]
     split<;>omega
    ·rw[ah h0]at e
     rw[←e];rfl
  ·rw[ah hp]at h;exact nomatch h
theorem Gr(p:cR→Bool)(f g:Int→Int→Int): ∀K:List cR,Gq p (λa b=>f a b+g a b) K=Gq p f K+Gq p g K
 |[]=>rfl
 |k::t=>by
  rw[qG,qG,qG,Gr p f g t]
  split<;>omega
theorem B0{p:cR→Bool}{f:Int→Int→Int}: ∀{K:List cR},(∀k∈K,f k.1 k.2=0)→Gq p f K=0
 |[],_=>rfl
 |k::t,h=>by
  rw[qG,h k (bp ..),B0 λx hx=>h x (a8 _ hx)]
  split<;>rfl
theorem N2(p:cR→Bool)(k:cR)(v:Int): ∀{K:List cR},sR K→k∈K→Gq p (λa b=>if k.1=a∧k.2=b then v else 0) K=if p k=true then v else 0
 |[],_,h=>nomatch h
 |x::t,hs,h=>by
  obtain⟨h1,h2⟩:=eK.1 hs
  rw[qG]
  by_cases e:k=x
  ·subst e
   have hz:Gq p (λa b=>if k.1=a∧k.2=b then v else 0) t=0:=B0 λy hy=>ah λe=>by
    have:=h1 y hy
    rw[show y=k from gG e.1.symm e.2.symm]at this
    exact mi this
   rw[aj (show k.1=k.1∧k.2=k.2 from⟨rfl,rfl⟩),hz,gr]
  ·rw[ah (show ¬(k.1=x.1∧k.2=x.2)from λh=>e (gG h.1 h.2)),N2 p k v h2 ((aX.1 h).elim (λh=>absurd h e) id)]
   split<;>omega
theorem Gs(p:cR→Bool){K:List cR}(hs:sR K): ∀{l:au},(∀x∈l,keyOf x∈K)→Gq p (λa b=>bX a b l) K=HU p l
 |[],_=>B0 λ_ _=>rfl
 |x::t,h=>by
  have e:(λa b=>bX a b (x::t))=λa b=>(if(keyOf x).1=a∧(keyOf x).2=b then dW x else 0)+bX a b t:=by
   funext a b;exact gg a b x t
  rw[e,Gr,N2 p (keyOf x) (dW x) hs (h x (bp ..)),Gs p hs λy hy=>h y (a8 _ hy),BZ]
theorem Gt{P:Int→Prop} [DecidablePred P]{l E o:au}{K:List cR}(p:cR→Bool)(hs:sR K)(hl: ∀x∈l,keyOf x∈K)(hE: ∀x∈E,keyOf x∈K)(h:ej P (fS l E) K=some o):HU p o=HU p l+HU p E:=by
 rw[Jj p h,←Gs p hs hl,←Gs p hs hE,←Gr];rfl
theorem vr: ∀l:au,HU (λ_=>true) l=(l.map dW).sum
 |[]=>rfl
 |x::t=>by rw[BZ,aj rfl,vr t,bR,cH]
theorem xT(i:Int): ∀l:au,HU (λk=>decide (k.2=i)) l=(c9 i l).sum
 |[]=>rfl
 |x::t=>by
  rw[BZ,xT i t,dF]
  by_cases e:x.2.1=i
  ·rw[aj (bs (show(keyOf x).2=i from e)),aj e,cH]
  ·rw[ah (by rw[cg (show ¬(keyOf x).2=i from e)];exact qK),ah e,lH]
def Gu(m:aG)(a:aO)(k n:Int):Prop:=(dy k 5→(gd a n).2=true)∧(dy k 6∨dy k 7→ ¬dy (iN m n) 0)
def Gv(c:ag)(a:aO)(k n:Int):Prop:=(dy k 0∨(gd a k).2=true)∧oY n c.1.length
theorem N3{k n:Int}(h:cW k n):(k,n)∈nO:=by
 unfold nO
 rw[oG]
 unfold cW at h
 dsimp only;omega
theorem Gw{l E:au}{Q:Int→Int→Prop}(hl: ∀x∈l,Q x.1 x.2.1)(hE: ∀x∈E,Q x.1 x.2.1){a b:Int}(h:fS l E a b≠0):Q a b:=by
 unfold fS at h
 by_cases hz:bX a b l=0
 ·rw[hz,lH]at h
  obtain⟨y,hy,e1,e2⟩:=xS h
  rw[←e1,←e2];exact hE y hy
 ·obtain⟨y,hy,e1,e2⟩:=xS hz
  rw[←e1,←e2];exact hl y hy
theorem KT{c:ag}{b:aq}{s e s' r':au}(hB:eu c b=true)(h1:ej Fq (fS b.2.2.2.1 s) kB=some s')(h2:ej aH (fS b.2.2.1 e) nO=some r')
  (gs: ∀x∈s,bU x.1 x.2.1∧Gv c b.2.1 x.1 x.2.1) (flat: ∀i:Int,(c9 i s).sum=0) (ge: ∀x∈e,cW x.1 x.2.1∧Gu b.1 b.2.1 x.1 x.2.1) (zero:(e.map dW).sum=0):
  eu c (b.1,(b.2.1,(r',(s',b.2.2.2.2))))=true:=by
 have hB':=hB
 unfold eu at hB'
 simp only[bP]at hB'
 obtain⟨b1,b2,b3,b4,b5,b6,b7,b8,b9,b10,b11⟩:=hB'
 obtain⟨hr,hs⟩:=dN hB
 obtain⟨o1,_⟩:=Gp hs h1
 obtain⟨o2,_⟩:=aa1 hr (λx hx=>(ge x hx).1) h2
 obtain⟨Li,hsk⟩:=dw hs
 obtain⟨H9,hrk⟩:=kC hr
 have k1: ∀x∈b.2.2.2.1,keyOf x∈kB:=λx hx=>rU.2 (hsk x hx).1
 have k2: ∀x∈s,keyOf x∈kB:=λx hx=>rU.2 (gs x hx).1
 have k3: ∀x∈b.2.2.1,keyOf x∈nO:=λx hx=>N3 (hrk x hx)
 have k4: ∀x∈e,keyOf x∈nO:=λx hx=>N3 (ge x hx).1
 have hp8:=bF b8
 have hp9:=bF b9
 have q8: ∀x∈b.2.2.1,Gu b.1 b.2.1 x.1 x.2.1:=λx hx=>by
  obtain⟨i,hi,e⟩:=fX hx
  have:=hp8 i hi
  unfold jP at this
  rw[aR,bl hi,ni,e]at this
  exact this
 have q9: ∀x∈b.2.2.2.1,Gv c b.2.1 x.1 x.2.1:=λx hx=>by
  obtain⟨i,hi,e⟩:=fX hx
  have:=hp9 i hi
  unfold jh at this
  rw[aR,bl hi,ni,e]at this
  exact this
 have n4:decide (dy (gS r') 0)=true:=by
  refine bs ?_
  unfold gS dy
  rw[o2,aj rfl,←vr,Gt _ (oH 25 7 1) k3 k4 h2,vr,vr,zero,gr]
  have:=bF b4
  unfold gS dy at this
  rw[hr,aj rfl]at this
  exact this
 have n5:nJ s'=true:=by
  unfold nJ at b5 ⊢
  obtain⟨f1,_⟩:=dm.1 b5
  rw[o1,gn]
  refine bs λj hj=> ?_
  have:=bF f1 j hj
  unfold rC dy qb at this ⊢
  rw[hs,aj rfl]at this
  rw[o1,aj rfl,←xT,Gt _ (oH 6 25 0) k1 k2 h1,xT,xT,flat,gr]
  exact this
 have n8:decide (∀j,j<r'.length→jP b.1 b.2.1 r' j)=true:=bs λj hj=>by
  obtain⟨g0,g1,_⟩:=(uz h2).2.1 _ (tp (d:=bf) hj)
  rw[g0]at g1
  exact Gw (Q:=Gu b.1 b.2.1) q8 (λx hx=>(ge x hx).2) g1
 have n9:decide (∀j,j<s'.length→jh c b.2.1 s' j)=true:=bs λj hj=>by
  obtain⟨g0,g1,_⟩:=(uz h1).2.1 _ (tp (d:=bf) hj)
  rw[g0]at g1
  exact Gw (Q:=Gv c b.2.1) q9 (λx hx=>(gs x hx).2) g1
 unfold eu
 simp only[bP]
 exact⟨b1,b2,o2,n4,n5,b6,b7,n8,n9,b10,b11⟩
end VM
end
section
namespace VM
open Go VM.F
theorem fK{α:Type}{l:List α}{d:α}{i:Nat}(h:i<l.length):l.getD i d=l[i]:=by
 rw[aR,bl h];rfl
theorem gU{α:Type}{d:α}{l:List α}{Q:α→Prop}:(∀j,j<l.length→Q (l.getD j d))↔ ∀x∈l,Q x:=
 ⟨λh x hx=>by
  obtain⟨i,hi,e⟩:=fX hx
  rw[←e,←fK (d:=d) hi];exact h i hi,λh j hj=>h _ (tp hj)⟩
theorem uA{α:Type}{d:α}{R:α→α→Prop}(tr: ∀a b c,R a b→R b c→R a c): ∀l:List α,(∀j,j<l.length→0<j→R (l.getD (j-1) d) (l.getD j d))↔l.Pairwise R
 |[]=>⟨λ_=>List.Pairwise.nil,λ_ j hj=>nomatch hj⟩
 |[x]=>⟨λ_=>Ex R x,λ_ j hj h0=>by have:j<1:=hj;omega⟩
 |x::y::t=>by
  rw[eK,←uA tr (y::t)]
  constructor
  ·intro h
   have YL:R x y:=h 1 (by simp) ω
   have ht: ∀j,j<(y::t).length→0<j→R ((y::t).getD (j-1) d) ((y::t).getD j d):=λj hj h0=>by
    have:=h (j+1) (by simpa using hj) ω
    obtain⟨k,rfl⟩: ∃k,j=k+1:=⟨j-1,ω⟩
    exact this
   have hp:=(uA tr (y::t)).1 ht
   refine⟨λz hz=> ?_,ht⟩
   rcases aX.1 hz with rfl|hz
   ·exact YL
   ·exact tr _ _ _ YL ((eK.1 hp).1 z hz)
  ·rintro⟨h1,h2⟩ j hj h0
   obtain⟨k,rfl⟩: ∃k,j=k+1:=⟨j-1,ω⟩
   cases k with
   |zero=>exact h1 y (bp ..)
   |succ k=>exact h2 (k+1) (by simpa using hj) ω
def XE(x y:FF):Prop:=oY x.1 y.1
def N4(x y:cy):Prop:=oY x.1 y.1
def Jk(x y:gu):Prop:=oY x.1 y.1
theorem KU{a b c:Int}(h1:oY a b)(h2:oY b c):oY a c:=Int.lt_trans h1 h2
def XF(a b:Int):Prop:=1≤a∧a≤12∧1≤b∧b≤4
theorem gB{m:aG}:dx m=true↔(∀x∈m,XF x.1 x.2.1)∧m.Pairwise XE:=by
 unfold dx
 rw[gn,fp,←uA (R:=XE) (d:=df) (λ_ _ _=>KU),←gU (d:=df)]
 exact⟨λh=>⟨λj hj=>⟨(h j hj).1,(h j hj).2.1,(h j hj).2.2.1,(h j hj).2.2.2.1⟩,λj hj h0=>(h j hj).2.2.2.2 h0⟩,λh j hj=>⟨(h.1 j hj).1,(h.1 j hj).2.1,(h.1 j hj).2.2.1,(h.1 j hj).2.2.2,λh0=>h.2 j hj h0⟩⟩
def anq(x y:cy):Prop:=dy x.2.2.1 1∧dy y.2.2.1 1∧dy x.2.1 y.2.1
def QS(x:cy):Prop:=mB x.1 x.2.1 x.2.2.1 x.2.2.2.1
def ntw(x y:cy):Prop:= ¬anq x y
theorem pA{a:aO}:gX a=true↔(∀x∈a,QS x)∧a.Pairwise N4∧a.Pairwise ntw:=by
 unfold gX
 rw[gn,fp,←uA (R:=N4) (d:=a7) (λ_ _ _=>KU),←gU (d:=a7),p4]
 constructor
 ·refine λh=>⟨λj hj=>(h j hj).1,λj hj h0=>(h j hj).2.1 h0,λi j hi hj pF ht=>(h j hj).2.2 ⟨?_,w1.2 ⟨i,pF,?_,?_⟩⟩⟩
  ·rw[fK hj];exact ht.2.1
  ·rw[fK hi];exact ht.1
  ·rw[fK hi,fK hj];exact ht.2.2
 ·rintro⟨h1,h2,h3⟩ j hj
  refine⟨h1 j hj,λh0=>h2 j hj h0,λ⟨ht,ho⟩=> ?_⟩
  obtain⟨i,pF,e1,e2⟩:=w1.1 ho
  rw[fK hj]at ht e2
  rw[fK (show i<a.length by omega)]at e1 e2
  exact h3 i j ω hj pF ⟨e1,ht,e2⟩
theorem kF{l:br}:eC l=true↔(∀x∈l,ry x)∧l.Pairwise Jk∧l.length≤32:=by
 unfold eC
 rw[dm,fp,fp,←uA (R:=Jk) (d:=fy) (λ_ _ _=>KU),←gU (d:=fy)]
 exact⟨λh=>⟨λj hj=>(h.1 j hj).1,λj hj h0=>(h.1 j hj).2 h0,h.2⟩,λh=>⟨λj hj=>⟨h.1 j hj,λh0=>h.2.1 j hj h0⟩,h.2.2⟩⟩
def jn(m:aG)(n:Int):Prop:= ∃x∈m,dy x.1 n
def qn(a:aO)(n:Int):Prop:= ∃x∈a,dy x.1 n
theorem gC{n:Int}: ∀{m:aG},(∀x∈m,XF x.1 x.2.1)→(¬dy (jO n m) 0↔jn m n)
 |[],_=>⟨λh=>absurd rfl h,λ⟨_,h,_⟩=>nomatch h⟩
 |x::t,h=>by
  have ih:=gC (n:=n) λy hy=>h y (a8 _ hy)
  have hx:=h x (bp ..)
  rw[vg]
  by_cases e:x.1=n
  ·rw[aj e]
   have g: ∀v:Int,1≤v→ ¬dy v 0:=λv h1 h2=>by unfold dy at h2;omega
   exact⟨λ_=>⟨x,bp ..,e⟩,λ_=>g _ hx.2.2.1⟩
  ·rw[ah e,ih]
   exact⟨λ⟨y,hy,h⟩=>⟨y,a8 _ hy,h⟩,λ⟨y,hy,h'⟩=>(aX.1 hy).elim (λk=>absurd (k▸h') e) λhy=>⟨y,hy,h'⟩⟩
theorem B1{n:Int}: ∀{a:aO},(ui n a).2=true↔qn a n
 |[]=>⟨λh=>(nomatch h),λ⟨_,h,_⟩=>nomatch h⟩
 |x::t=>by
  rw[oC]
  by_cases e:x.1=n
  ·rw[aj e]
   exact⟨λ_=>⟨x,bp ..,e⟩,λ_=>rfl⟩
  ·rw[ah e,B1]
   exact⟨λ⟨y,hy,h⟩=>⟨y,a8 _ hy,h⟩,λ⟨y,hy,h'⟩=>(aX.1 hy).elim (λk=>absurd (k▸h') e) λhy=>⟨y,hy,h'⟩⟩
theorem vt{m:aG}(h:dx m=true)(n:Int): ¬dy (iN m n) 0↔jn m n:=by
 unfold iN;rw[aj h];exact gC (gB.1 h).1
theorem pB{a:aO}(h:gX a=true)(n:Int):(gd a n).2=true↔qn a n:=by
 unfold gd;rw[aj h];exact B1
def jx(m:aG)(a:aO)(k n:Int):Prop:=(dy k 5→qn a n)∧(dy k 6∨dy k 7→jn m n)
def yC(c:ag)(a:aO)(k n:Int):Prop:=(dy k 0∨qn a k)∧oY n c.1.length
def Gx(c:ag)(a:aO)(x:gu):Prop:=qn a x.2.1∧oY x.2.2.1 c.1.length
theorem KV{m:aG}{a:aO}(hm:dx m=true)(ha:gX a=true){k n:Int}:Gu m a k n↔jx m a k n:=by
 unfold Gu jx;rw[pB ha,vt hm]
theorem KW{c:ag}{a:aO}(ha:gX a=true){k n:Int}:Gv c a k n↔yC c a k n:=by
 unfold Gv yC;rw[pB ha]
structure RB(C:ag)(b:aq):Prop where
 c:fG C=true
 m:dx b.1=true
 a:gX b.2.1=true
 ma: ∀x∈b.2.1,jn b.1 x.2.1
 r:eE b.2.2.1=true
 t:dy (gS b.2.2.1) 0
 s:nJ b.2.2.2.1=true
 o:eC b.2.2.2.2.2.1=true
 n:dy b.2.2.2.2.1.length C.1.length
 rk: ∀x∈b.2.2.1,jx b.1 b.2.1 x.1 x.2.1
 sk: ∀x∈b.2.2.2.1,yC C b.2.1 x.1 x.2.1
 ok: ∀x∈b.2.2.2.2.2.1,Gx C b.2.1 x
 p:fe b.2.2.2.2.1=true
theorem mE{c:ag}{b:aq}:eu c b=true↔RB c b:=by
 unfold eu rB
 simp only[bP,gn,fp]
 constructor
 ·rintro⟨b1,⟨b2,b2',aic⟩,b3,b4,b5,b6,b7,b8,b9,b10,b11⟩
  refine⟨b1,b2,b2',?_,b3,b4,b5,b6,b7,?_,?_,?_,b11⟩
  ·exact(gU (d:=a7) (Q:=λx=>jn b.1 x.2.1)).1 λj hj=>(gC (gB.1 b2).1).1 (aic j hj)
  ·exact(gU (d:=bf) (Q:=λx=>jx b.1 b.2.1 x.1 x.2.1)).1 λj hj=>(KV b2 b2').1 (b8 j hj)
  ·exact(gU (d:=bf) (Q:=λx=>yC c b.2.1 x.1 x.2.1)).1 λj hj=>(KW b2').1 (b9 j hj)
  ·exact(gU (d:=fy) (Q:=λx=>Gx c b.2.1 x)).1 λj hj=>⟨(pB b2' _).1 (b10 j hj).1,(b10 j hj).2⟩
 ·rintro⟨b1,b2,b2',aic,b3,b4,b5,b6,b7,b8,b9,b10,b11⟩
  refine⟨b1,⟨b2,b2',?_⟩,b3,b4,b5,b6,b7,?_,?_,?_,b11⟩
  ·exact λj hj=>(gC (gB.1 b2).1).2 ((gU (d:=a7) (Q:=λx=>jn b.1 x.2.1)).2 aic j hj)
  ·exact λj hj=>(KV b2 b2').2 ((gU (d:=bf) (Q:=λx=>jx b.1 b.2.1 x.1 x.2.1)).2 b8 j hj)
  ·exact λj hj=>(KW b2').2 ((gU (d:=bf) (Q:=λx=>yC c b.2.1 x.1 x.2.1)).2 b9 j hj)
  ·exact λj hj=>let h:=(gU (d:=fy) (Q:=λx=>Gx c b.2.1 x)).2 b10 j hj;⟨(pB b2' _).2 h.1,h.2⟩
theorem RB.Ut{c:ag}{b:aq}(h:RB c b){m:aG}{a:aO}(hm:dx m=true)(ha:gX a=true)(mm: ∀n,jn b.1 n→jn m n)(aa: ∀n,qn b.2.1 n→qn a n)(ma: ∀x∈a,jn m x.2.1):
  RB c (m,(a,b.2.2)):=
 ⟨h.c,hm,ha,ma,h.r,h.t,h.s,h.o,h.n,λx hx=>⟨λe=>aa _ ((h.rk x hx).1 e),λe=>mm _ ((h.rk x hx).2 e)⟩,λx hx=>⟨(h.sk x hx).1.imp id (aa _),(h.sk x hx).2⟩,λx hx=>⟨aa _ (h.ok x hx).1,(h.ok x hx).2⟩,h.p⟩
theorem RB.KX{c:ag}{b:aq}(h:RB c b){o:br}(ho:eC o=true)(hk: ∀x∈o,Gx c b.2.1 x):RB c (b.1,(b.2.1,(b.2.2.1,(b.2.2.2.1,(b.2.2.2.2.1,(o,())))))):=
 ⟨h.c,h.m,h.a,h.ma,h.r,h.t,h.s,ho,h.n,h.rk,h.sk,hk,h.p⟩
theorem RB.ans{c:ag}{b:aq}(h:RB c b){s e s' r':au}(h1:ej Fq (fS b.2.2.2.1 s) kB=some s')(h2:ej aH (fS b.2.2.1 e) nO=some r')
  (gs: ∀x∈s,bU x.1 x.2.1∧yC c b.2.1 x.1 x.2.1) (flat: ∀i:Int,(c9 i s).sum=0) (ge: ∀x∈e,cW x.1 x.2.1∧jx b.1 b.2.1 x.1 x.2.1) (zero:(e.map dW).sum=0):RB c (b.1,(b.2.1,(r',(s',b.2.2.2.2)))):=
 mE.1 (KT (mE.2 h) h1 h2 (λx hx=>⟨(gs x hx).1,(KW h.a).2 (gs x hx).2⟩) flat (λx hx=>⟨(ge x hx).1,(KV h.m h.a).2 (ge x hx).2⟩) zero)
abbrev RBs(c:ag)(b b':aq):Prop:=RB c b'∧b'.1=b.1∧b'.2.1=b.2.1∧b'.2.2.2.2=b.2.2.2.2
theorem RB.eY{c:ag}{b:aq}(h:RB c b){s e:au}(gs: ∀x∈s,bU x.1 x.2.1∧yC c b.2.1 x.1 x.2.1)(flat: ∀i:Int,(c9 i s).sum=0)
  (ge: ∀x∈e,cW x.1 x.2.1∧jx b.1 b.2.1 x.1 x.2.1) (zero:(e.map dW).sum=0) (h0:(VM.eY b s e).2=0):RBs c b (VM.eY b s e).1:=by
 rcases Gn b s e with⟨h1,_⟩|⟨s',r',h1,h2,h3⟩
 ·rw[h1]at h0;exact absurd h0 δ
 ·rw[h3];exact⟨h.ans h1 h2 gs flat ge zero,rfl,rfl,rfl⟩
end VM
end
section
namespace VM
open Go VM.F
theorem Ok.and{α:Type}{P Q:α→Prop}{o:Option α}(h1:Ok P o)(h2:Ok Q o):Ok (λr=>P r∧Q r) o:=by
 obtain⟨r,e,hr⟩:=h1
 obtain⟨q,e',hq⟩:=h2
 rw[e]at e'
 exact⟨r,e,hr,(lE e')▸hq⟩
theorem A5{α:Type}{l:List α}{x y:α}(k:Nat):y∈l.take k++x::l.drop k↔y=x∨y∈l:=by
 have e:y∈l↔y∈l.take k∨y∈l.drop k:=by rw[←bo,fW]
 rw[e,bo,aX]
 constructor
 ·rintro(h|h|h)
  ·exact .inr (.inl h)
  ·exact .inl h
  ·exact .inr (.inr h)
 ·rintro(h|h|h)
  ·exact .inr (.inl h)
  ·exact .inl h
  ·exact .inr (.inr h)
theorem Gy{α:Type}{R:α→α→Prop}{l:List α}{x:α}{k:Nat}(hp:l.Pairwise R)(h1: ∀y∈l.take k,R y x)(h2: ∀y∈l.drop k,R x y):(l.take k++x::l.drop k).Pairwise R:=by
 rw[←fW k l,wa]at hp
 rw[wa,eK]
 exact⟨hp.1,⟨h2,hp.2.1⟩,λa ha b hb=>by
  rcases aX.1 hb with rfl|hb
  ·exact h1 a ha
  ·exact hp.2.2 a ha b hb⟩
theorem Sx{α:Type}{l:List α}{d:α}{f:α→Int}(hp:l.Pairwise λa b=>oY (f a) (f b)){v:Int}{k:Nat}(h1: ∀j,j<k→oY (f (l.getD j d)) v)(h2:k<l.length→ ¬oY (f (l.getD k d)) v)(hn: ∀y∈l,¬dy (f y) v):
  (∀y∈l.take k,oY (f y) v)∧ ∀y∈l.drop k,oY v (f y):=by
 refine⟨λy hy=> ?_,λy hy=> ?_⟩
 ·obtain⟨j,hj,e⟩:=fX hy
  rw[bO]at hj
  rw[zy]at e
  have:=h1 j ω
  rw[fK ω,e]at this
  exact this
 ·obtain⟨j,hj,e⟩:=fX hy
  rw[dI]at hj
  rw[zx]at e
  have h3:=h2 ω
  rw[fK ω]at h3
  have h4:=hn y (m8 hy)
  have g: ∀a b c:Int,¬oY a c→(oY a b∨a=b)→ ¬dy b c→oY c b:=λa b c h h' JW=>by
   unfold oY dy at*
   rcases h' with h'|h'<;>omega
  refine g _ _ _ h3 ?_ h4
  by_cases h0:j=0
  ·subst h0;right;rw[←e];rfl
  ·left
   have:=p4.1 hp k (k+j) ω ω ω
   rw[e]at this;exact this
theorem Gz{α:Type}{l:List α}{d:α}(g:α→α){i:Nat}(hi:i<l.length):
  ((l.take i).map g++l.drop i).getD i d=l.getD i d∧((l.take i).map g++l.drop i).set i (g (l.getD i d))=(l.take (i+1)).map g++l.drop (i+1)∧(g (l.getD i d)=l.getD i d→(l.take i).map g++l.drop i=(l.take (i+1)).map g++l.drop (i+1)):=by
 have hlen:((l.take i).map g).length=i:=by rw[cO,bO];omega
 have e1:l.drop i=l[i]::l.drop (i+1):=lX hi
 have e2:l.take (i+1)=l.take i++[l[i]]:=(sD hi).symm
 rw[fK hi]
 refine⟨?_,?_,λh=> ?_⟩
 ·rw[aR,oP ω,hlen,tL,e1];rfl
 ·rw[LO _ _ ω,hlen,tL,e1,e2,List.set_cons_zero,dn,bM];rfl
 ·rw[e1,e2,dn,bM,bR,h];rfl
theorem xU{α:Type}(l:List α)(g:α→α)(i:Nat):((l.take i).map g++l.drop i).length=l.length:=by
 rw[aT,cO,bO,dI];omega
theorem XG(N:Nat)(hN:200000≤N){a:aG}(hl:a.length≤50000)(id:Int):Ok (λr=>r.2=0→dx r.1=true∧ ∀n,jn a n→jn r.1 n) (iv N a id):=by
 have bad: ∀e:Int,e≠0→Ok (λr:aG×Int=>r.2=0→dx r.1=true∧ ∀n,jn a n→jn r.1 n) (some ([],e)):=λe h=>an λh'=>absurd h' h
 have b1:=bad 1 δ
 unfold iv iv.b
 refine bx (mL N ω hN) (bw (λ_=>b1) λhM=>ax (λ_=>b1) λh1=>ax (λ_=>b1) λh2=>bx (im N ω hN id) (bu (λ_=>bad _ δ) λh0=> ?_))
 obtain⟨hm,hp⟩:=gB.1 hM
 have hn: ∀y∈a,¬dy y.1 id:=λy hy e=>(gC hm).2 ⟨y,hy,e⟩ h0
 have fin: ∀k:Nat,k≤a.length→(∀j,j<k→oY (a.getD j df).1 id)→(k<a.length→ ¬oY (a.getD k df).1 id)→Ok (λr=>r.2=0→dx r.1=true∧ ∀n,jn a n→jn r.1 n) (iv.j9 N a id [] (k:Int)):=λk hk g1 g2=>by
  unfold iv.j9 iv.M7
  refine KI hk ω λ_=> ?_
  simp only[cL,aE,cZ,cM,iD,bM,kL]
  obtain⟨q1,q2⟩:=Sx (f:=λx:FF=>x.1) hp g1 g2 hn
  refine⟨gB.2 ⟨λx hx=> ?_,Gy hp q1 q2⟩,λn ⟨y,hy,e⟩=>⟨y,(A5 k).2 (.inr hy),e⟩⟩
  rcases(A5 k).1 hx with rfl|hx
  ·exact⟨h1,h2,(show(1:Int)≤1 by decide),(show(1:Int)≤4 by decide)⟩
  ·exact hm x hx
 refine bk (σ:=Unit) (len:=a.length) (F:=λn i _=>iv.l7 N n a id [] i) (s:=()) (λi _=> ∀j,j<i→oY (a.getD j df).1 id) (λj hj=>absurd hj ω) ω (λn i _ hi hI hr=> ?_) (λn _ hI=> ?_)
 all_goals unfold iv.l7 iv.pN
 ·rw[aw (x:=(i:Int)+1) ω ω,ae i]
  refine ax (λ_=>aA ⟨ω,ω⟩ (ax (λh=>hr () λj hj=> ?_) λh=>fin i ω hI λ_ h'=> ?_)) λ_=>ω
  ·by_cases e:j=i
   ·subst e;exact h
   ·exact hI j ω
  ·have g: ∀x y:Int,oY x y→y≤x→False:=λx y h h'=>by unfold oY at h;omega
   exact g _ _ h' h
 ·exact ax (λ_=>ω) λ_=>fin _ (aI _) hI λh=>absurd h ω
theorem XH(N:Nat)(a b:Int):Ok (λr=>r.2=true→1≤r.1∧r.1≤4) (T8 N a b):=by
 have h: ∀(x:Int) (t:Bool),(t=true→1≤x∧x≤4)→Ok (λr:Int×Bool=>r.2=true→1≤r.1∧r.1≤4) (some (x,t)):=λx t hx=>an hx
 unfold T8
 repeat' first|refine ok_eq (λ_=> ?_) (λ_=> ?_)|exact h _ _ δ
def KY(id v:Int)(x:FF):FF:=if x.1=id then(x.1,(v,x.2.2))else x
theorem QT(id v:Int)(x:FF):(KY id v x).1=x.1:=by unfold KY;split<;>rfl
theorem xj{α:Type}{R:α→α→Prop}{g:α→α}{l:List α}(hp:l.Pairwise R)(h: ∀x∈l,∀y∈l,R x y→R (g x) (g y)):(l.map g).Pairwise R:=by
 rw[tF]
 exact hp.imp_of_mem λhx hy h'=>h _ hx _ hy h'
theorem Sy(N:Nat)(hN:200000≤N){l:aG}(hl:l.length≤50000)(id k:Int):Ok (λr=>r.2=0→dx r.1=true∧(∀n,jn l n→jn r.1 n)∧jn l id) (lU N l id k):=by
 have bad: ∀e:Int,e≠0→Ok (λr:aG×Int=>r.2=0→dx r.1=true∧(∀n,jn l n→jn r.1 n)∧jn l id) (some ([],e)):=λe h=>an λh'=>absurd h' h
 unfold lU lU.b
 refine bx (mL N ω hN) (bw (λ_=>bad _ δ) λhM=>bx (im N ω hN _) (ok_eq (λ_=>bad _ δ) λEV=>af (XH N _ _) λz hz=>bw (λ_=>bad _ δ) λHj=>aD (by rw[bZ];omega) ?_))
 obtain⟨hm,hp⟩:=gB.1 hM
 have hz:=hz Hj
 rw[cL]
 refine bk (len:=l.length) (F:=λn i s=>lU.xi N n id z.1 s i) (λi s=>s=(l.take i).map (KY id z.1)++l.drop i) rfl ω (λn i s hi hI hr=> ?_) (λn s hI=> ?_)
 all_goals unfold lU.xi lU.uv
 ·rw[aw (x:=(i:Int)+1) ω ω,ae i]
  obtain⟨s1,s2,s3⟩:=Gz (d:=df) (KY id z.1) hi
  have hs:s.length=l.length:=by rw[hI];exact xU l _ i
  rw[←hI]at s1 s2 s3
  refine ax (λ_=>aA ⟨ω,ω⟩ (ok_eq (λe=>aA ⟨ω,ω⟩ (hr _ ?_)) λe=>hr s (s3 ?_))) λ_=>ω
  ·rw[aE,s1]at e ⊢
   rw[←s2]
   unfold KY;rw[aj e]
  ·rw[aE,s1]at e
   unfold KY;rw[ah e]
 ·have hs:s.length=l.length:=by rw[hI];exact xU l _ _
  have e:s=l.map (KY id z.1):=by rw[hI,iD,lD,cK]
  refine ax (λ_=>ω) λ_=>an λ_=> ?_
  dsimp only
  rw[e]
  refine⟨gB.2 ⟨λx hx=> ?_,xj hp λx _ y _ h=> ?_⟩,λn ⟨y,hy,e⟩=>⟨KY id z.1 y,eX hy,?_⟩,(gC hm).1 EV⟩
  ·obtain⟨y,hy,rfl⟩:=cD.1 hx
   have h:=hm y hy
   unfold KY
   split
   ·exact⟨h.1,h.2.1,hz.1,hz.2⟩
   ·exact h
  ·unfold XE;rw[QT,QT];exact h
  ·rw[QT];exact e
def HV(id v:Int)(x:cy):cy:=if x.1=id then(x.1,(x.2.1,(x.2.2.1,(v,x.2.2.2.2))))else x
def DO(id v:Int)(x:cy):cy:=if x.1=id then(x.1,(v,x.2.2))else x
theorem xk(id v:Int)(x:cy):(HV id v x).1=x.1∧(HV id v x).2.1=x.2.1∧(HV id v x).2.2.1=x.2.2.1:=by unfold HV;split<;>exact⟨rfl,rfl,rfl⟩
theorem GA(id v:Int)(x:cy):(DO id v x).1=x.1∧(DO id v x).2.2=x.2.2:=by unfold DO;split<;>exact⟨rfl,rfl⟩
theorem N5{a:aO}{g:cy→cy}(hg: ∀x,(g x).1=x.1)(n:Int)(h:qn a n):qn (a.map g) n:=by
 obtain⟨y,hy,e⟩:=h
 exact⟨g y,eX hy,by rw[hg];exact e⟩
abbrev ss(m:aG)(a:aO)(r:aO×Int):Prop:=r.2=0→gX r.1=true∧(∀n,qn a n→qn r.1 n)∧ ∀x∈r.1,jn m x.2.1
theorem ss.bad{m:aG}{a:aO}{e:Int}(h:e≠0):Ok (ss m a) (some ([],e)):=an λh'=>absurd h' h
theorem XI(N:Nat)(hN:200000≤N){m:aG}{l:aO}(hl:l.length≤50000)(hm: ∀x∈l,jn m x.2.1)(id q:Int):Ok (ss m l) (nY N l id q):=by
 unfold nY nY.b
 refine bx (uj N ω hN) (bw (λ_=>ss.bad δ) λhA=>ax (λ_=>ss.bad δ) λq0=>ax (λ_=>ss.bad δ) λq1=>bx (rA N ω hN _) (bw (λ_=>ss.bad δ) λ_=>aD (by rw[bZ];omega) ?_))
 obtain⟨ha,hp,ht⟩:=pA.1 hA
 rw[cL]
 refine bk (len:=l.length) (F:=λn i s=>nY.l8 N n id q s i) (λi s=>s=(l.take i).map (HV id q)++l.drop i) rfl ω (λn i s hi hI hr=> ?_) (λn s hI=> ?_)
 all_goals unfold nY.l8 nY.CQ
 ·rw[aw (x:=(i:Int)+1) ω ω,ae i]
  obtain⟨s1,s2,s3⟩:=Gz (d:=a7) (HV id q) hi
  have hs:s.length=l.length:=by rw[hI];exact xU l _ i
  rw[←hI]at s1 s2 s3
  refine ax (λ_=>aA ⟨ω,ω⟩ (ok_eq (λe=>aA ⟨ω,ω⟩ (hr _ ?_)) λe=>hr s (s3 ?_))) λ_=>ω
  ·rw[aE,s1]at e ⊢
   rw[←s2]
   unfold HV;rw[aj e]
  ·rw[aE,s1]at e
   unfold HV;rw[ah e]
 ·have hs:s.length=l.length:=by rw[hI];exact xU l _ _
  have e:s=l.map (HV id q):=by rw[hI,iD,lD,cK]
  refine ax (λ_=>ω) λ_=>an λ_=> ?_
  dsimp only
  rw[e]
  refine⟨pA.2 ⟨λx hx=> ?_,xj hp λx _ y _ h=> ?_,xj ht λx _ y _ h=> ?_⟩,N5 λx=>(xk id q x).1,λx hx=> ?_⟩
  ·obtain⟨y,hy,rfl⟩:=cD.1 hx
   have h:=ha y hy
   unfold HV
   split
   ·exact⟨h.1,h.2.1,h.2.2.1,q0,q1⟩
   ·exact h
  ·unfold N4;rw[(xk id q x).1,(xk id q y).1];exact h
  ·unfold ntw anq;rw[(xk id q x).2.1,(xk id q y).2.1,(xk id q x).2.2,(xk id q y).2.2];exact h
  ·obtain⟨y,hy,rfl⟩:=cD.1 hx
   rw[(xk id q y).2.1];exact hm y hy
theorem Jl{n:Int}: ∀{l:aO},l.Pairwise N4→ ∀x∈l,dy x.1 n→(ui n l).1=x
 |[],_,x,hx,_=>nomatch hx
 |y::t,hp,x,hx,e=>by
  rw[oC]
  rcases aX.1 hx with rfl|hx
  ·rw[aj (show x.1=n from e)]
  ·have h:oY y.1 x.1:=(eK.1 hp).1 x hx
   have g: ∀a b:Int,oY a b→dy b n→ ¬a=n:=λa b h1 h2=>by unfold oY dy at*;omega
   rw[ah (g _ _ h e)]
   exact Jl (eK.1 hp).2 x hx e
theorem QU(N:Nat)(hN:200000≤N){m:aG}{l:aO}(Hc:m.length≤50000)(hl:l.length≤50000)(id to:Int):Ok (ss m l) (nZ N m l id to):=by
 unfold nZ nZ.b
 refine bx (w3 N ω ω hN) (bw (λ_=>ss.bad δ) λhR=>bx (rA N ω hN _) (bx (im N ω hN _) (bw (λ_=>ss.bad δ) λ_=>ok_eq (λ_=>ss.bad δ) λhs=>bu (λ_=>ss.bad δ) λhk=>bu (λ_=>ss.bad δ) λ_=>aD (by rw[bZ];omega) ?_)))
 unfold rB at hR
 simp only[bP,gn,fp]at hR
 obtain⟨hM,hA,hma⟩:=hR
 obtain⟨ha,hp,ht⟩:=pA.1 hA
 have hmm:=(gB.1 hM).1
 obtain⟨mx,PA,emx⟩:=(gC hmm).1 hs
 have hm: ∀x∈l,jn m x.2.1:=(gU (d:=a7) (Q:=λx=>jn m x.2.1)).1 λj hj=>(gC hmm).1 (hma j hj)
 rw[cL]
 refine bk (len:=l.length) (F:=λn i s=>nZ.oF N n id to s i) (λi s=>s=(l.take i).map (DO id to)++l.drop i) rfl ω (λn i s hi hI hr=> ?_) (λn s hI=> ?_)
 all_goals unfold nZ.oF nZ.mX
 ·rw[aw (x:=(i:Int)+1) ω ω,ae i]
  obtain⟨s1,s2,s3⟩:=Gz (d:=a7) (DO id to) hi
  have hs:s.length=l.length:=by rw[hI];exact xU l _ i
  rw[←hI]at s1 s2 s3
  refine ax (λ_=>aA ⟨ω,ω⟩ (ok_eq (λe=>aA ⟨ω,ω⟩ (hr _ ?_)) λe=>hr s (s3 ?_))) λ_=>ω
  ·rw[aE,s1]at e ⊢
   rw[←s2]
   unfold DO;rw[aj e]
  ·rw[aE,s1]at e
   unfold DO;rw[ah e]
 ·have hs:s.length=l.length:=by rw[hI];exact xU l _ _
  have e:s=l.map (DO id to):=by rw[hI,iD,lD,cK]
  refine ax (λ_=>ω) λ_=>an λ_=> ?_
  dsimp only
  rw[e]
  have cl: ∀x∈l,x.1=id→x.2.2.1=2:=λx hx e=>by rw[←Jl hp x hx e];exact hk
  have mo:XF mx.1 mx.2.1:=hmm mx PA
  have ant:mx.1=to:=emx
  refine⟨pA.2 ⟨λx hx=> ?_,xj hp λx _ y _ h=> ?_,xj ht λx hx y hy h=> ?_⟩,N5 λx=>(GA id to x).1,λx hx=> ?_⟩
  ·obtain⟨y,hy,rfl⟩:=cD.1 hx
   have h:=ha y hy
   unfold DO
   split
   ·exact⟨h.1,⟨ant▸mo.1,ant▸mo.2.1⟩,h.2.2⟩
   ·exact h
  ·unfold N4;rw[(GA id to x).1,(GA id to y).1];exact h
  ·intro ⟨t1,t2,t3⟩
   rw[(GA id to x).2]at t1
   rw[(GA id to y).2]at t2
   have nx: ∀x∈l,dy x.2.2.1 1→DO id to x=x:=λx hx e=>by
    unfold DO
    rw[ah]
    intro h'
    have:=cl x hx h'
    have e':x.2.2.1=1:=e
    rw[e']at this;exact absurd this δ
   rw[nx x hx t1,nx y hy t2]at t3
   exact h ⟨t1,t2,t3⟩
  ·obtain⟨y,hy,rfl⟩:=cD.1 hx
   unfold DO
   split
   ·exact⟨mx,PA,emx⟩
   ·exact hm y hy
theorem C6{n:Int}: ∀{l:aO},(∀x∈l,QS x)→nH n l=0→ ∀x∈l,dy x.2.2.1 1→ ¬dy x.2.1 n
 |[],_,_,x,hx,_=>nomatch hx
 |y::t,ha,h,x,hx,e=>by
  rw[sP]at h
  have ih:=C6 (n:=n) λz hz=>ha z (a8 _ hz)
  have hy:QS y:=ha y (bp ..)
  have g: ∀v:Int,1≤v→ ¬v=0:=λv h1 h2=>ω
  by_cases e1:y.2.1=n
  ·rw[aj e1]at h
   by_cases e2:y.2.2.1=1
   ·rw[aj e2]at h;exact absurd h (g _ hy.1.1)
   ·rw[ah e2]at h
    rcases aX.1 hx with rfl|hx
    ·exact absurd e e2
    ·exact ih h x hx e
  ·rw[ah e1]at h
   rcases aX.1 hx with rfl|hx
   ·exact e1
   ·exact ih h x hx e
theorem aa3(N:Nat)(hN:200000≤N){m:aG}{l:aO}(Hc:m.length≤50000)(hl:l.length≤50000)(x:cy):Ok (ss m l) (fm N m l x):=by
 unfold fm fm.b
 refine bx (w3 N ω ω hN) (bw (λ_=>ss.bad δ) λhR=>bx (uj N (l:=[x]) (by rw[aK];omega) hN) (bw (λ_=>ss.bad δ) λhX=>bx (im N ω hN _) (ok_eq (λ_=>ss.bad δ) λhs=>bu (λ_=>ss.bad δ) λ_=>bx (rA N ω hN _) (qg (λ_=>ss.bad δ) λhf=> ?_))))
 unfold rB at hR
 simp only[bP,gn,fp]at hR
 obtain⟨hM,hA,hma⟩:=hR
 obtain⟨ha,hp,ht⟩:=pA.1 hA
 have hmm:=(gB.1 hM).1
 have hx:=(pA.1 hX).1 x (cm.2 rfl)
 have hxm:=(gC hmm).1 hs
 have hm: ∀x∈l,jn m x.2.1:=(gU (d:=a7) (Q:=λx=>jn m x.2.1)).1 λj hj=>(gC hmm).1 (hma j hj)
 have hn: ∀y∈l,¬dy y.1 x.1:=λy hy e=>by
  have:=B1.2 ⟨y,hy,e⟩
  rw[hf]at this;exact nomatch this
 have fin:(∀y∈l,ntw y x)→ ∀k:Nat,k≤l.length→(∀j,j<k→oY (l.getD j a7).1 x.1)→(k<l.length→ ¬oY (l.getD k a7).1 x.1)→Ok (ss m l) (fm.BT N l x [] (k:Int)):=λhw k hk g1 g2=>by
  unfold fm.BT fm.vW
  refine KI hk ω λ_=> ?_
  simp only[cL,aE,cZ,cM,iD,bM,kL]
  obtain⟨q1,q2⟩:=Sx (f:=λx:cy=>x.1) hp g1 g2 hn
  have tw: ∀y∈l,ntw x y:=λy hy ⟨t1,t2,t3⟩=>hw y hy ⟨t2,t1,Eq.symm t3⟩
  refine⟨pA.2 ⟨λy hy=> ?_,Gy hp q1 q2,Gy ht (λy hy=>hw y (jI hy)) λy hy=>tw y (m8 hy)⟩,λn ⟨y,hy,e⟩=>⟨y,(A5 k).2 (.inr hy),e⟩,λy hy=> ?_⟩
  ·rcases(A5 k).1 hy with rfl|hy
   ·exact hx
   ·exact ha y hy
  ·rcases(A5 k).1 hy with rfl|hy
   ·exact hxm
   ·exact hm y hy
 have hj:(∀y∈l,ntw y x)→Ok (ss m l) (fm.Jd N l x):=λhw=>by
  unfold fm.Jd fm.BV
  refine bk (σ:=Unit) (len:=l.length) (F:=λn i _=>fm.oF N n l x [] i) (s:=()) (λi _=> ∀j,j<i→oY (l.getD j a7).1 x.1) (λj hj=>absurd hj ω) ω (λn i _ hi hI hr=> ?_) (λn _ hI=> ?_)
  all_goals unfold fm.oF fm.mX
  ·rw[aw (x:=(i:Int)+1) ω ω,ae i]
   refine ax (λ_=>aA ⟨ω,ω⟩ (ax (λh=>hr () λj hj=> ?_) λh=>fin hw i ω hI λ_ h'=> ?_)) λ_=>ω
   ·by_cases e:j=i
    ·subst e;exact h
    ·exact hI j ω
   ·have g: ∀x y:Int,oY x y→y≤x→False:=λx y h h'=>by unfold oY at h;omega
    exact g _ _ h' h
  ·exact ax (λ_=>ω) λ_=>fin hw _ (aI _) hI λh=>absurd h ω
 refine ok_eq (λe=>bx (qB N ω hN _) (bu (λ_=>ss.bad δ) λh0=>hj λy hy ⟨t1,_,t3⟩=> ?_)) λe=>hj λy hy ⟨_,t2,_⟩=>e t2
 unfold nI at h0
 rw[aj hA]at h0
 exact C6 ha h0 y hy t1 t3
end VM
end
section
namespace VM
open Go VM.F
def PB(m:aG)(a:aO)(p:bE):Prop:=
 ∃e:au,p=e.map jR∧FM e∧(∀x∈e,cW x.1 x.2.1∧jx m a x.1 x.2.1)∧(e.map dW).sum=0
def SB(c:ag)(a:aO)(s:au):Prop:=eJ s∧(∀x∈s,bU x.1 x.2.1∧yC c a x.1 x.2.1)∧ ∀i:Int,(c9 i s).sum=0
theorem PB.nil{m:aG}{a:aO}:PB m a []:=⟨[],rfl,λx hx=>(nomatch hx),λx hx=>(nomatch hx),rfl⟩
theorem PB.app{m:aG}{a:aO}{p q:bE}(hp:PB m a p)(hq:PB m a q):PB m a (p++q):=by
 obtain⟨e,rfl,e1,e2,e3⟩:=hp
 obtain⟨f,rfl,f1,f2,f3⟩:=hq
 refine⟨e++f,dn.symm,λx hx=>(bo.1 hx).elim (e1 x) (f1 x),λx hx=>(bo.1 hx).elim (e2 x) (f2 x),?_⟩
 rw[dn,nn,e3,f3];rfl
theorem GB(i:Int): ∀s t:au,c9 i (s++t)=c9 i s++c9 i t
 |[],t=>rfl
 |x::s,t=>by
  rw[kL,dF,dF,GB i s t]
  split<;>rfl
theorem SB.nil{c:ag}{a:aO}:SB c a []:=⟨λx hx=>(nomatch hx),λx hx=>(nomatch hx),λ_=>rfl⟩
theorem SB.app{c:ag}{a:aO}{s t:au}(hs:SB c a s)(ht:SB c a t):SB c a (s++t):=
 ⟨λx hx=>(bo.1 hx).elim (hs.1 x) (ht.1 x),λx hx=>(bo.1 hx).elim (hs.2.1 x) (ht.2.1 x),λi=>by rw[GB,nn,hs.2.2,ht.2.2];rfl⟩
theorem SB.two{c:ag}{a:aO}{x y i q r:Int}(hq:aH q)(hr:aH r)(e:q+r=0)(hx:bU x i∧yC c a x i)(hy:bU y i∧yC c a y i):SB c a [(x,(i,(q,()))),(y,(i,(r,())))]:=by
 refine⟨λz hz=> ?_,λz hz=> ?_,λj=> ?_⟩
 ·rcases aX.1 hz with rfl|hz
  ·exact hq
  ·rw[cm.1 hz];exact hr
 ·rcases aX.1 hz with rfl|hz
  ·exact hx
  ·rw[cm.1 hz];exact hy
 ·rw[dF,dF]
  by_cases h:i=j
  ·rw[aj h,aj h]
   show q+(r+0)=0
   omega
  ·rw[ah h,ah h];rfl
theorem PB.two{m:aG}{a:aO}{k n k' n' v w:Int}(hv:eB v)(hw:eB w)(e:v+w=0)(h1:cW k n∧jx m a k n)(h2:cW k' n'∧jx m a k' n'):PB m a [(k,(n,(di v,()))),(k',(n',(di w,())))]:=by
 refine⟨[(k,(n,(v,()))),(k',(n',(w,())))],rfl,λz hz=> ?_,λz hz=> ?_,?_⟩
 ·rcases aX.1 hz with rfl|hz
  ·exact hv
  ·rw[cm.1 hz];exact hw
 ·rcases aX.1 hz with rfl|hz
  ·exact h1
  ·rw[cm.1 hz];exact h2
 ·show v+(w+0)=0
  omega
abbrev Jm(c:ag)(b:aq)(r:aq×Int):Prop:=r.2=0→RBs c b r.1
theorem Jm.bad{c:ag}{b b':aq}{e:Int}(h:e≠0):Ok (Jm c b) (some (b',e)):=an λh'=>absurd h' h
theorem XJ(N:Nat)(hN:4000000≤N){b:aq}{s e:au}(w:kz b)(hr:eE b.2.2.1=true)(hs:da b.2.2.2.1=true)(lr:b.2.2.1.length≤90000)(ls:b.2.2.2.1.length≤90000)(qs:eJ s)(lns:s.length≤100000)(qe:FM e)(lne:e.length≤100000):
  A0 N b s (e.map jR)=some (eY b s e):=by
 unfold A0 eY
 rw[Qr N hN hs ls w.qs qs lns,aao N hN hr lr w.qr qe lne]
 unfold w9
 rw[av,av]
 cases ej Fq (fS b.2.2.2.1 s) kB with
 |none=>rfl
 |some s'=>
  cases ej aH (fS b.2.2.1 e) nO with
  |none=>rfl
  |some r'=>rfl
theorem sY(N:Nat)(hN:4000000≤N){c:ag}{b:aq}{s:au}{p:bE}{m:Nat}(hm:m≤50000)(hb:G m aJ b)(h:RB c b)(hs:SB c b.2.1 s)(hp:PB b.1 b.2.1 p)(ls:s.length≤50000)(lp:p.length≤50000):Ok (Jm c b) (A0 N b s p):=by
 obtain⟨e,rfl,e1,e2,e3⟩:=hp
 obtain⟨hr,EV⟩:=dN (mE.2 h)
 have w:=G.wf hm hb
 rw[cO]at lp
 exact nX (XJ N hN w.w hr EV w.r w.s hs.1 ω e1 ω) λh0=>h.eY hs.2.1 hs.2.2 e2 e3 h0
theorem tq{v:Int}(h:aH v):eB v∧eB (-v):=by unfold aH at h;unfold eB;omega
theorem sZ(N:Nat)(hN:4000000≤N){m:aG}{a:aO}{k n k' n' v:Int}(hv:eB v∧eB (-v))(h1:cW k n∧jx m a k n)(h2:cW k' n'∧jx m a k' n'):Ok (λr=>PB m a r∧r.length=2) (BX N k n k' n' (di v)):=by
 unfold BX
 exact bx (oB N hN (D9 hv.1)) (an ⟨PB.two hv.2 hv.1 ω h1 h2,rfl⟩)
theorem uB{c:ag}{b:aq}(h:RB c b){k:Int}(hk:qn b.2.1 k):cW 5 k∧jx b.1 b.2.1 5 k:=by
 obtain⟨y,hy,e⟩:=hk
 have hk:=(pA.1 h.a).1 y hy
 have e':y.1=k:=e
 exact⟨.inr (.inl ⟨rfl,e'▸hk.1⟩),λ_=>⟨y,hy,e⟩,λh=>absurd h δ⟩
theorem B2{m:aG}{a:aO}{k:Int}(h:1≤k∧k≤4):cW k 0∧jx m a k 0:=
 ⟨.inl ⟨h.1,h.2,rfl⟩,λe=>by unfold dy at e;omega,λe=>by unfold dy at e;omega⟩
theorem A6{c:ag}{b:aq}(h:RB c b){k n:Int}(hk:6≤k∧k≤7)(hn:jn b.1 n):cW k n∧jx b.1 b.2.1 k n:=by
 obtain⟨y,hy,e⟩:=hn
 have hm:=(gB.1 h.m).1 y hy
 have e':y.1=n:=e
 exact⟨.inr (.inr ⟨hk.1,hk.2,e'▸hm.1,e'▸hm.2.1⟩),λe=>by unfold dy at e;omega,λ_=>⟨y,hy,e⟩⟩
theorem KZ{m:aG}{a:aO}{k:Int}(h:dy k 0∨qn a k)(hk:0≤k∧k≤24)(x:Int):cW (AO k x).1 (AO k x).2.1∧jx m a (AO k x).1 (AO k x).2.1:=by
 unfold AO
 by_cases e:k=0
 ·rw[aj e]
  exact⟨show cW 2 0 by decide,λh=>absurd h (show ¬dy 2 5 by decide),λh=>absurd h (show ¬(dy 2 6∨dy 2 7)by decide)⟩
 ·rw[ah e]
  refine⟨show cW 5 k by unfold cW;omega,λ_=>h.elim (λh=>absurd h e) id,λh=>absurd h (show ¬(dy 5 6∨dy 5 7)by decide)⟩
theorem N6{c:ag}{b:aq}(h:RB c b){k:Int}(ht:((gd b.2.1 k).2||decide (dy k 0))=true):dy k 0∨qn b.2.1 k:=by
 rcases Bool.or_eq_true_iff.1 ht with ht|ht
 ·exact .inr ((pB h.a k).1 ht)
 ·exact .inl (bF ht)
theorem HW(N:Nat)(hN:4000000≤N){m:aG}{a:aO}{t:tg}{p:Int}(ht:nP t)(hp:ji p)(h1:dy t.1 0∨qn a t.1)(h2:dy t.2.1 0∨qn a t.2.1):Ok (λr=>PB m a r.1∧r.1.length≤2) (Qz N t p):=by
 refine nX (HQ N hN ht hp) ?_
 have ht':=ht
 unfold nP kD at ht'
 have hk:eB ((p-t.2.2.2.2.1)*t.2.2.2.1)∧eB (-((p-t.2.2.2.2.1)*t.2.2.2.1)):=by
  have hq:=ht'.2.2.2.2.1
  have he:=ht'.2.2.2.2.2
  generalize t.2.2.2.2.1=e at*
  generalize t.2.2.2.1=q at*
  unfold ji at hp he
  have:=IU (d:=p-e) ω hq
  unfold eB;omega
 unfold Qy
 dsimp only
 split
 ·exact⟨PB.nil,bG _⟩
 ·refine⟨⟨_,rfl,λx hx=> ?_,λx hx=> ?_,?_⟩,aI 2⟩
  ·rcases aX.1 hx with rfl|hx
   ·rw[nQ];exact hk.1
   ·rw[cm.1 hx,nQ];exact hk.2
  ·rcases aX.1 hx with rfl|hx
   ·exact KZ h1 ht'.1 _
   ·rw[cm.1 hx];exact KZ h2 ht'.2.1 _
  ·rw[bR,bR,iE,nQ,nQ,cH,cH,jK];omega
theorem Jn(N:Nat)(hN:5000000≤N){c:ag}{b:aq}{l:bL}{m:Nat}(hm:m≤50000)(hb:G m aJ b)(h:RB c b):Ok (Jm c b) (gE N c b l):=by
 unfold gE gE.b
 refine bx (dQ N hN hm hb) (bw (λ_=>Jm.bad δ) λhB=>ax (λ_=>Jm.bad δ) λhl=> ?_)
 obtain⟨hp,Co⟩:=iq hB
 refine bk (len:=l.length) (F:=λn i (_:Unit)=>gE.l4 N n l c b (cw,(dh,(bK,(bK,(dV,(eh,())))))) i) (s:=()) (λi _=> ∀j,j<i→nP (l.getD j ny)) (λj hj=>ω) ω (λn i _ hi hI hr=> ?_) (λn _ hI=> ?_)
 all_goals unfold gE.l4 gE.dH
 ·rw[aw (x:=(i:Int)+1) ω ω,ae i]
  refine ax (λ_=>aA ⟨ω,ω⟩ (bx (xK N _) (bw (λ_=>Jm.bad δ) λht=>hr () λj hj=> ?_))) λ_=>ω
  by_cases e:j=i
  ·rw[e];exact bF ht
  ·exact hI j ω
 ·refine ax (λ_=>ω) λ_=> ?_
  have wf:=G.wf hm hb
  refine bk (len:=l.length) (F:=λn i (s:au×bE)=>gE.xi N n l c b (cw,(dh,(bK,(bK,(dV,(eh,())))))) s.1 s.2 i) (s:=(_,_)) (λi s=>(SB c b.2.1 s.1∧s.1.length≤2*i)∧PB b.1 b.2.1 s.2∧s.2.length≤2*i) ⟨⟨SB.nil,bG _⟩,PB.nil,bG _⟩ ω (λn i s hi hJ hr=> ?_) (λn s hJ=> ?_)
  all_goals unfold gE.xi gE.uv
  all_goals obtain⟨⟨j1,j2⟩,j3,j4⟩:=hJ
  ·have ht0:=hI i hi
   have ht:=ht0
   unfold nP kD at ht
   dsimp only
   rw[aw (x:=(i:Int)+1) ω ω,ae i,aE]
   generalize l.getD i ny=t at*
   refine ax (λ_=>aA ⟨ω,ω⟩ (bx (uk N b wf.w.a ω _) (bw (λ_=>Jm.bad δ) λt1=>bx (uk N b wf.w.a ω _) (bw (λ_=>Jm.bad δ) λt2=>ed (λ_=>Jm.bad δ) λfA=>aD ?_ (aA ⟨ht.2.2.2.1.1,by rw[hp];exact fA⟩ ?_))))) λ_=>ω
   ·rw[aW,aK];omega
   have i1:=N6 h t1
   have i2:=N6 h t2
   have pr:ji (b.2.2.2.2.1.getD t.2.2.1.toNat 0):=by
    unfold fe at Co
    have hk:t.2.2.1.toNat<b.2.2.2.2.1.length:=by
     rw[hp]
     have g: ∀x:Int,0≤x→x<(c.1.length:Int)→x.toNat<c.1.length:=λx h1 h2=>ω
     exact g _ ht.2.2.2.1.1 fA
    exact(bF Co) _ hk
   refine af (HW N ω ht0 pr i1 i2) λr ⟨zf,zV⟩=>aD ω (hr (_,_) ⟨⟨?_,?_⟩,PB.app j3 zf,?_⟩)
   ·refine SB.app j1 ?_
    have hq:aH t.2.2.2.1∧aH (0-t.2.2.2.1)∧W .i64 (0-t.2.2.2.1)=0-t.2.2.2.1:=by
     have hq:=ht.2.2.2.2.1
     generalize t.2.2.2.1=q at*
     exact⟨by unfold aH;omega,by unfold aH;omega,aw ω ω⟩
    rw[hq.2.2]
    have pl: ∀x:Int,0≤x∧x≤24→bU x t.2.2.1:=λx hx=>⟨hx.1,hx.2,ht.2.2.2.1.1,ht.2.2.2.1.2⟩
    exact SB.two hq.1 hq.2.1 ω ⟨pl _ ht.1,i1,fA⟩ ⟨pl _ ht.2.1,i2,fA⟩
   ·dsimp only;rw[List.length_append,List.length_cons,List.length_singleton];omega
   ·dsimp only;rw[List.length_append];omega
  ·exact ax (λ_=>ω) λ_=>af (sY N ω hm hb h j1 j3 ω ω) λr h=>an h
theorem aa4(N:Nat)(hN:5000000≤N){c:ag}{b:aq}{h:cy}{a q p:Int}{m:Nat}(h2:200≤m)(hm:m≤40000)(hc:G m aB c)(hb:G m aJ b)(hR:RB c b)(hh:G m eR h)(ha:aH a)(hq:aH q)(hp:aH p):Ok (λr=>r.2.2=0→RB c r.1) (pT N c b h a q p):=by
 have ho:G m m6 (h.1,(a,(h.2.1,(W .i64 (3-h.2.2.1),(q,(p,())))))):=⟨hh.1,ha,hh.2.1,gN _,hq,hp,trivial⟩
 have dR: ∀e:Int,e≠0→Ok (λr:aq×cy×Int=>r.2.2=0→RB c r.1) (some ((cw,(dh,(bK,(bK,(dV,(eh,())))))),(a7,e))):=λe h=>an λh'=>absurd h' h
 unfold pT pT.b
 have hj: ∀t:tg,Ok (λr=>r.2.2=0→RB c r.1) (pT.j14 N q c b h (cw,(dh,(bK,(bK,(dV,(eh,())))))) a7 t):=λt=>by
  unfold pT.j14 pT.aaA
  exact af (Jn N hN ω hb hR) λr hr=>bu (λh=>dR _ h) λh0=>an λ_=>(hr h0).1
 have b1:=dR 1 δ
 exact bx (dQ N hN ω hb) (bw (λ_=>b1) λ_=>bx (xf N h) (bw (λ_=>b1) λ_=>ax (λ_=>b1) λ_=>ax (λ_=>b1) λ_=>ax (λ_=>b1) λ_=>ax (λ_=>b1) λ_=>ax (λ_=>dR _ δ) λ_=>ax (λ_=>b1) λ_=>ax (λ_=>b1) λ_=>af (A2 N hN h2 hm hc hb ho) λe _=>bu (λh=>dR _ h) λ_=>ok_eq (λ_=>hj _) λ_=>hj _))
theorem N7(N:Nat)(hN:5000000≤N){c:ag}{b:aq}{m:Nat}(h2:200≤m)(hm:m≤40000)(hc:G m aB c)(hb:G m aJ b)(hR:RB c b){a:Int}(ha:aH a){q:Int}(hq:aH q):Ok (Jm c b) (Uc N c b a q):=by
 have b1: ∀e:Int,e≠0→Ok (Jm c b) (some ((cw,(dh,(bK,(bK,(dV,(eh,())))))),e)):=λe h=>Jm.bad h
 unfold Uc
 refine bx (dQ N hN ω hb) (bw (λ_=>b1 _ δ) λ_=>ax (λ_=>b1 _ δ) λ_=>af (Gh N ω ω hb.2.1 _) λx ⟨_,hxf⟩=>bw (λ_=>b1 _ δ) λhf=>af (oJ N ω ω hb.1 _) λ_ _=>bu (λ_=>b1 _ δ) λ_=>af (mD N ω ω hb.2.2.1 _ _) λg hg=>af (bq N ω hg) λx hx=>af (bq N ω hq) λy hy=>af (xQ N ω ω hx hy) λz hz=>af (Gg N ω h2 hm hc hb (bG _) _) λw hw=>af (pS N ω ω ω hz hw) λ_ _=>ax (λ_=>b1 _ δ) λ_=>bx (dC N ω hq.1 hq.2) ?_)
 rw[hxf]at hf
 exact af (sZ N ω (tq hq) (uB hR ((pB hR.a a).1 hf)) (B2 δ)) λp ⟨hp,Dr⟩=>af (sY N ω ω hb hR SB.nil hp (bG _) ω) λr hr=>an hr
def C8(i d:Int)(l:au):au:=(l.filter λx=>decide (dy x.2.1 i∧ ¬dy d 0)).map λx=>AO x.1 (dW x*d)
theorem QV{l:au}{i d:Int}{k:Nat}(hk:k<l.length):C8 i d (l.take (k+1))=C8 i d (l.take k)++if dy (l.getD k bf).2.1 i∧ ¬dy d 0 then [AO (l.getD k bf).1 (dW (l.getD k bf)*d)]else []:=by
 have e2:l.take (k+1)=l.take k++[l[k]]:=(sD hk).symm
 unfold C8
 rw[e2,List.filter_append,dn,fK hk]
 congr 1
 by_cases h:dy l[k].2.1 i∧ ¬dy d 0
 ·rw[aj h,wh,aj (bs h)];rfl
 ·rw[ah h,wh,ah (by rw[cg h];exact qK)];rfl
theorem Jo{i d:Int}: ∀l:au,((C8 i d l).map dW).sum=(c9 i l).sum*d
 |[]=>(wo d).symm
 |x::t=>by
  have ih:=Jo (i:=i) (d:=d) t
  unfold C8 at ih ⊢
  rw[dF]
  by_cases h:x.2.1=i
  ·rw[aj h]
   by_cases h0:d=0
   ·rw[wh,ah (by rw[cg (λh=>h.2 h0)];exact qK),ih,h0,zH,zH]
   ·rw[wh,aj (bs ⟨h,h0⟩),bR,bR,cH,cH,ih,iG,nQ]
  ·rw[ah h,wh,ah (by rw[cg (λk=>h k.1)];exact qK),ih]
theorem aa5{q d:Int}(hq:aH q)(hd: -1000000000000≤d∧d≤1000000000000):eB (q*d):=by
 have h1:(q*d).natAbs≤9223372036854775808*1000000000000:=by
  rw[Int.natAbs_mul]
  unfold aH at hq
  exact wk ω ω
 unfold eB;omega
theorem XK(N:Nat)(hN:4000000≤N){c:ag}{b:aq}{m:Nat}(hm:m≤50000)(hb:G m aJ b)(hR:RB c b){i:Int}(hi0:0≤i∧i<6)(x y:Int):Ok (λr=>PB b.1 b.2.1 r.1∧r.1.length≤50000) (n6 N b.2.2.2.1 i x y):=by
 have h:=hb.2.2.2.1
 have hl:=h.1
 have hs:=(dN (mE.2 hR)).2
 have fl:(c9 i b.2.2.2.1).sum=0:=by
  have:=hR.s
  unfold nJ at this
  have:=bF (dm.1 this).1 i.toNat (by unfold jC;omega)
  unfold rC dy qb at this
  rw[aj hs,m9 hi0.1]at this
  exact this
 have hp:=(dw hs).2
 unfold n6 n6.b
 have nil: ∀e:Int,Ok (λr:bE×Int=>PB b.1 b.2.1 r.1∧r.1.length≤50000) (some ([],e)):=λe=>an ⟨PB.nil,bG _⟩
 refine bx (mM N ω ω) (bw (λ_=>nil _) λ_=>bx (iM N _) (bw (λ_=>nil _) λha=>bx (iM N _) (bw (λ_=>nil _) λff=> ?_)))
 have ha:=bF ha
 have ff:=bF ff
 refine bx (dC N ω ω ω) (bx (dC N ω ω ω) (bx (u7 N hN ((Fit.i64 ω ω).mono ω) ((Fit.i64 ω ω).mono ω)) ?_))
 have d64: -1000000000000≤y-x∧y-x≤1000000000000:=ω
 generalize y-x=d at*
 have fin:PB b.1 b.2.1 ((C8 i d b.2.2.2.1).map jR):=by
  refine⟨_,rfl,λz hz=> ?_,λz hz=> ?_,?_⟩
  ·obtain⟨u,hu,rfl⟩:=cD.1 hz
   rw[nQ];exact aa5 (h.2 u (wj.1 hu).1).2.2.1 d64
  ·obtain⟨u,hu,rfl⟩:=cD.1 hz
   have hu:=(wj.1 hu).1
   exact KZ (hR.sk u hu).1 ⟨(hp u hu).1.1,(hp u hu).1.2.1⟩ _
  ·rw[Jo,fl,wo]
 refine bk (len:=b.2.2.2.1.length) (F:=λn j s=>n6.l6 N n b.2.2.2.1 i s (di d) j) (λj s=>s=(C8 i d (b.2.2.2.1.take j)).map jR∧s.length≤j) ⟨rfl,bG _⟩ ω (λn j s hj hI hr=> ?_) (λn s hI=> ?_)
 all_goals unfold n6.l6 n6.tb
 ·obtain⟨i1,i2⟩:=hI
  have st:=QV (i:=i) (d:=d) hj
  have hx:G m jA (b.2.2.2.1.getD j bf):=h.2 _ (tp hj)
  rw[aw (x:=(j:Int)+1) ω ω,ae j,aE]
  have skip: ¬(dy (b.2.2.2.1.getD j bf).2.1 i∧ ¬dy d 0)→s=(C8 i d (b.2.2.2.1.take (j+1))).map jR∧s.length≤j+1:=λh=>⟨by rw[st,ah h,cK];exact i1,ω⟩
  refine ax (λ_=>aA ⟨ω,ω⟩ (bu (λe=>hr s (skip λk=>e k.1)) λe1=>bx (p9 N d) (ok_eq (λe=>hr s (skip λk=>k.2 (ky.1 e))) λe2=>aA ⟨ω,ω⟩ (bx (BK _ (dW (b.2.2.2.1.getD j bf)*d) N) (aA ⟨ω,ω⟩ (bx (dC N ω hx.2.2.1.1 hx.2.2.1.2) (bx (Aq N hN ((Fit.i64 hx.2.2.1.1 hx.2.2.1.2).mono ω) ((Fit.i64 ω ω).mono ω)) (aD (by rw[aK];omega) (hr _ ⟨?_,by rw[aT,aK];omega⟩))))))))) λ_=>ω
  rw[st,aj ⟨e1,λk=>e2 (ky.2 k)⟩,dn,i1]
  congr 1
  unfold jR
  rw[bR,iE,nQ];rfl
 ·have i2:=hI.2
  refine ax (λ_=>ω) λ_=>an ⟨?_,by dsimp only;omega⟩
  have:=hI.1
  rw[iD]at this
  rw[this];exact fin
theorem QW{l:List Int}(h:fe l=true){p:Int}(hp:1≤p∧p≤1000000000000)(k:Nat):fe (l.set k p)=true:=by
 unfold fe at*
 have h:=bF h
 refine bs λj hj=> ?_
 rw[bB]at hj
 have YP:=h j hj
 unfold qc at*
 rw[aR,List.getElem?_set]
 split
 ·rw[aj ω];exact hp
 ·rw[←aR];exact YP
theorem N8(N:Nat)(hN:5000000≤N){c:ag}{b:aq}{m:Nat}(hm:m≤50000)(hb:G m aJ b)(hR:RB c b)(i p:Int):Ok (λr=>r.2.2=0→RB c r.1) (Ub N c b i p):=by
 have dR: ∀e:Int,e≠0→Ok (λr:aq×bE×Int=>r.2.2=0→RB c r.1) (some ((cw,(dh,(bK,(bK,(dV,(eh,())))))),([],e))):=λe h=>an λh'=>absurd h' h
 have Dr:=hb.2.2.2.2.1.1
 have hci:c.1.length≤6:=by
  have:=hR.c
  unfold fG at this
  exact(bF (dm.1 this).1).2
 unfold Ub
 refine bx (dQ N hN hm hb) (bw (λ_=>dR _ δ) λhB=>bx (iM N _) (bw (λ_=>dR _ δ) λhp=>ax (λ_=>dR _ δ) λh0=>ed (λ_=>dR _ δ) λh1=> ?_))
 obtain⟨Wi,_⟩:=iq hB
 have hp:=bF hp
 dsimp only
 rw[cL]
 refine aA ⟨h0,by rw[Wi];exact h1⟩ (af (XK N ω hm hb hR ⟨h0,ω⟩ _ _) λf ⟨hf,S1⟩=>af (sY N ω hm hb hR SB.nil hf (bG _) S1) λr hr=>bu (λh=>dR _ h) λhz=>aD (by rw[bZ];omega) (aA ⟨h0,by rw[Wi];exact h1⟩ (an λ_=> ?_)))
 have q:=(hr hz).1
 exact⟨q.c,q.m,q.a,q.ma,q.r,q.t,q.s,q.o,by rw[bB];exact hR.n,q.rk,q.sk,q.ok,QW hR.p hp _⟩
end VM
end
