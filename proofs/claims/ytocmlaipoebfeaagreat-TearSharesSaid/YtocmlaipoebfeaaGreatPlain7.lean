/- A part of the proof of TearShares of layer 29: what the functions compute, in plain words. -/
import Derived.Test.YtocmlaipoebfeaaGreatPlain4
import Derived.Test.YtocmlaipoebfeaaGreatPlain6
set_option linter.all false
section
namespace VM
open Go VM.F
theorem afc{q x:Int}(h0:0≤x)(h1:x<9223372036854775808):aB (sg q x)∧nQ (sg q x):=by
 unfold sg aB nQ;split<;>omega
theorem PG{t left:Int}{w out:List Int}(f:Full t w w out left)(i:Nat)(hi:i<w.length):0≤out.getD i 0∧out.getD i 0<9223372036854775808:=by
 have c:=f.c
 have h1:=c.le i hi
 have h2:=(c.pc i).2
 have h3:=c.po i
 omega
theorem PH(N:Nat){a q:Int}{accs out:List Int}(hl:accs.length=out.length)(hle:out.length≤1000)(ho: ∀i,i<out.length→0≤out.getD i 0∧out.getD i 0<9223372036854775808)(s:aj)(hs:s.length≤1000)(hN:200000≤N):
  lz.xC N N a q accs s out (out.length:Int) 0=some (s++zc a q (out.zip accs),0):=by
 have hz:(out.zip accs).length=out.length:=by rw[avN];omega
 have:=qo (out.zip accs) (0,0) (fun n i s=>lz.xC N n a q accs s out (out.length:Int) i) (fun t s=>some (s++zc a q t,(0:Int))) (fun i (s:aj)=>s.length≤1000+i) (fun n i s hi hI hr=> ?_) (fun n s hI=> ?_) out.length N 0 s (by omega) (by omega) (by omega) (by omega)
 ·exact this
 ·unfold lz.xC lz.xD
  have ji:i<out.length:=by omega
  have h2:=ho i ji
  rw[aC (by omega),aua,aI (by omega) (by omega),aua,aue,aI (by omega) (by omega),aua,an (x:=(i:Int)+1) (by omega) (by omega),aa i,an (x:=0-out.getD i 0) (by omega) (by omega),Dn ji (by omega),pQ]
  dsimp only
  rw[aua,bs (by rw[aud];omega),aua,bs (by rw[aud];omega),aua]
  have e:sg q (out.getD i 0)=if q<0 then 0-out.getD i 0 else out.getD i 0:=rfl
  rw[ck,cond_not,cond_not,aG,aG]
  have fin:(if sg q (out.getD i 0)=0 then lz.xC N n a q accs s out (out.length:Int) ((i+1:Nat):Int)else lz.xC N n a q accs (s++[(accs.getD i 0,(a,(sg q (out.getD i 0),())))]) out (out.length:Int) ((i+1:Nat):Int))=some (s++(if sg q (out.getD i 0)=0 then zc a q ((out.zip accs).drop (i+1))else(accs.getD i 0,(a,(sg q (out.getD i 0),())))::zc a q ((out.zip accs).drop (i+1))),(0:Int)):=by
   by_cases h:sg q (out.getD i 0)=0
   ·rw[auh h,auh h];exact hr s (by omega)
   ·rw[aui h,aui h,hr _ (by rw[aug,aud];omega),aur];rfl
  refine Eq.trans ?_ fin
  by_cases h:q<0
  ·rw[auh h,e,auh h]
  ·rw[aui h,e,aui h]
 ·unfold lz.xC lz.xD
  rw[hz,az (by omega),auc]
  show _=some (s++[],(0:Int))
  rw[auJ]
theorem uU{l:aj}(h: ∀x∈l,aB (dt x)∧nQ (dt x))(a b:Int):aB (aT l a b)∧nQ (aT l a b):=by
 have key: ∀l:aj,(∀x∈l,aB (dt x)∧nQ (dt x))→aB (eh a b l)∧nQ (eh a b l):=by
  intro l
  induction l with
  |nil=>intro _;show aB 0∧nQ 0;decide
  |cons x t ih=>
   intro h
   have ih:=ih (fun y hy=>h y (auk _ hy))
   rw[fp]
   split
   ·split
    ·exact h x (auo ..)
    ·exact ih
   ·exact ih
 unfold aT
 split
 ·exact key l h
 ·decide
theorem ym(l:aj):(nW l).length=l.length:=auH ..
theorem rn(l:aj):(di l).length=l.length:=auH ..
theorem oW{q:Int}(h:aB q∧nQ q):(q.natAbs:Int)<9223372036854775808:=by unfold aB nQ at h;omega
theorem uV{l:aj}(hk:cG l=true)(hq:eR l): ∀x∈l,aB (dt x)∧nQ (dt x):=fun x hx=>⟨hq x hx,((dV hk).2 x hx).2⟩
theorem vT{l:aj}(hk:cG l=true)(hq:eR l){a q:Int}(ux:aB q∧nQ q)(hc:(fa l a q).2.2=0):
  Full (q.natAbs:Int) (di (cn a q l)) (di (cn a q l)) (fa l a q).1 (fa l a q).2.1∧(fa l a q).1.length=(cn a q l).length∧(fa l a q).1.length≤64∧ ∀i,i<(fa l a q).1.length→0≤(fa l a q).1.getD i 0∧(fa l a q).1.getD i 0<9223372036854775808:=by
 have f:Full (q.natAbs:Int) (di (cn a q l)) (di (cn a q l)) (fa l a q).1 (fa l a q).2.1:=zQ (oW ux) (vQ (uV hk hq) a q) hc
 have h1:=f.c.l2
 have h2:=f.c.n
 rw[rn]at h1 h2
 exact⟨f,h1,by omega,fun i hi=>PG f i (by rw[rn];omega)⟩
theorem yn(N:Nat)(hN:5000000≤N)(c:ae){b:ah}(w:q6 b)(a:Int):lz N c b a=some (fb c b a):=by
 unfold lz lz.b fb
 rw[Kc N (by omega) w,at7,Sf N w.s (by omega),at7,cond_not,ck,bO,aG]
 by_cases hB:dn c b=false
 ·rw[hB];rfl
 rw[Bool.not_eq_false]at hB
 rw[hB,aua,auh rfl]
 obtain⟨_,hk⟩:=jC hB
 have hq:=uV hk w.qs
 have hh:=uU hq 0 a
 have hlen:=w.s
 have hqs:=w.qs
 generalize b.2.2.2.1=l at*
 generalize aT l 0 a=q at*
 by_cases h1:a<0
 ·rw[auh h1,auh h1]
 rw[aui h1,aui h1]
 by_cases h2:(c.1.length:Int)≤a
 ·rw[auh h2,auh h2]
 rw[aui h2,aui h2]
 by_cases h3:q=0
 ·rw[auh h3,auh h3]
 rw[aui h3,aui h3]
 have qL:=hh.1
 unfold aB at qL
 have hqn:q≠ -9223372036854775808:=hh.2
 have:=qo l aW (fun n i (z:aj)=>lz.ve N n a q (nW z) (di z) l (l.length:Int) i)
  (fun t z=>some (if(fa l a q).2.2=0 then(Sg l a q,0)else([],(fa l a q).2.2))) (fun i z=>z++cn a q (l.drop i)=cn a q l∧z.length≤i)
  (fun n i z hi hI hr=> ?_) (fun n z hI=> ?_) l.length N 0 [] (by omega) (by omega) (by omega) ⟨rfl,aul _⟩
 ·exact this
 ·unfold lz.ve lz.sy
  obtain⟨i1,i2⟩:=hI
  have hm:l.getD i aW∈l:=by
   rw[aub,auf hi];exact auT hi
  have hx:=hq _ hm
  rw[drop_cons hi aW,iK]at i1
  rw[aC (by omega),aua,aI (by omega) (by omega),aua,aue,an (x:=(i:Int)+1) (by omega) (by omega),aa i]
  generalize l.getD i aW=x at*
  have ns:=hx.1
  unfold aB dt at ns
  have hxs:(x.2.2.1.natAbs:Int)<9223372036854775808:=oW hx
  rw[bs (by rw[ym,aud];omega),aua,xW N ns.1 ns.2,at7,an (x:=(x.2.2.1.natAbs:Int)) (by omega) (by omega)]
  dsimp only
  rw[bs (by rw[rn,aud];omega),aua,cond_not,aG,aG,cond_not,qV,ma,ma]
  by_cases e1:x.1=0
  ·rw[auh e1]
   rw[aui (fun h=>h.1 e1)]at i1
   exact hr z ⟨i1,by omega⟩
  ·rw[aui e1]
   by_cases e2:x.2.1=a
   ·rw[auh e2]
    by_cases e3:ti (dt x) q
    ·have eb:(decide (x.2.2.1<0)==decide (q<0))=false:=by
      unfold ti dt at e3
      by_cases g1:x.2.2.1<0<;>by_cases g2:q<0
      ·exact absurd ⟨fun _=>g2,fun _=>g1⟩ e3
      ·rw[auv g1,auB g2];rfl
      ·rw[auB g1,auv g2];rfl
      ·exact absurd ⟨fun h=>absurd h g1,fun h=>absurd h g2⟩ e3
     rw[eb,auc]
     rw[auh ⟨e1,e2,e3⟩]at i1
     have:=hr (z++[x]) ⟨by rw[aur];exact i1,by rw[aug,aud];omega⟩
     unfold nW di at this
     rw[auV,auV]at this
     exact this
    ·have eb:(decide (x.2.2.1<0)==decide (q<0))=true:=by
      unfold ti dt at e3
      have e3:=axu.1 e3
      rw[show decide (x.2.2.1<0)=decide (q<0)from avR.2 e3]
      exact aw5 _
     rw[eb,aua]
     rw[aui (fun h=>e3 h.2.2)]at i1
     exact hr z ⟨i1,by omega⟩
   ·rw[aui e2]
    rw[aui (fun h=>e2 h.2.1)]at i1
    exact hr z ⟨i1,by omega⟩
 ·unfold lz.ve lz.sy
  obtain⟨i1,i2⟩:=hI
  rw[awm]at i1
  have ez:z=cn a q l:=by rw[←i1];exact(auJ _).symm
  subst ez
  have ou:=rn (cn a q l)
  rw[az (by omega),auc,xW N qL.1 qL.2,at7,an (x:=(q.natAbs:Int)) (by omega) (by omega),LZ N hN (by omega) (vQ hq a q) (vQ hq a q) (by rw[ou];omega),at7,cond_not,aG,an (x:=0-q) (by omega) (by omega)]
  show(if(fa l a q).2.2=0 then _ else _)=_
  by_cases h4:(fa l a q).2.2=0
  ·rw[auh h4,auh h4]
   obtain⟨f,g1,g2,g3⟩:=vT hk hqs hh h4
   exact PH N (by rw[ym];omega) (by omega) g3 _ (by simp) (by omega)
  ·rw[aui h4,aui h4];rfl
theorem FY{l:aj}(h:cG l=true): ∀x∈l,dt x≠0:=fun x hx=>by
 unfold cG at h
 rw[awg]at h
 obtain⟨i,hi,e⟩:=avq hx
 have:=auw h i hi
 unfold ij iI at this
 rw[aub,auf hi]at this
 simp only[av6,e]at this
 exact this.2.1
theorem FZ{x q:Int}(hx:x≠0)(hq:q≠0):ti x q↔ ¬((0<x)↔(0<q)):=by
 unfold ti;omega
end VM
end
section
namespace VM
open Go VM.F Go.RowKit
structure n0(s:aj)(n:Nat):Prop where
 place: ∀x∈s,bT x.1 x.2.1
 q: ∀x∈s,aB (dt x)∧nQ (dt x)
 len:s.length≤n
 flat: ∀i:Int,(cO i s).sum=0
theorem n0.nil(n:Nat):n0 [] n:=⟨fun x hx=>(nomatch hx),fun x hx=>(nomatch hx),au3 _,fun i=>rfl⟩
theorem n0.app{s t:aj}{n m k:Nat}(a:n0 s n)(b:n0 t m)(h:n+m≤k):n0 (s++t) k:=
 ⟨fun x hx=>(aut.1 hx).elim (a.place x) (b.place x),fun x hx=>(aut.1 hx).elim (a.q x) (b.q x),by rw[aug];have:=a.len;have:=b.len;omega,fun i=>by rw[A9,awL,a.flat,b.flat];rfl⟩
theorem n0.akE{s:aj}{n:Nat}(a:n0 s n)(h:n≤400):Oy s:=⟨a.place,a.q,by have:=a.len;omega,a.flat⟩
theorem I7(a q i:Int): ∀t:List (Int×Int),(cO i (zc a q t)).sum=if a=i then sg q (t.map (·.1)).sum else 0
 |[]=>by
  show(0:Int)=if a=i then sg q 0 else 0
  unfold sg;split<;>(try split)<;>rfl
 |p::t=>by
  have ih:=I7 a q i t
  have hs:sg q ((p::t).map (·.1)).sum=sg q p.1+sg q (t.map (·.1)).sum:=by
   rw[auI,auO];unfold sg;split<;>omega
  rw[pQ,hs]
  by_cases h:sg q p.1=0
  ·rw[auh h,ih,h];split<;>omega
  ·rw[aui h,dU]
   dsimp only
   by_cases e:a=i
   ·rw[auh e,auh e,auO,ih,auh e];rfl
   ·rw[aui e,aui e,ih,aui e]
theorem z6{a q:Int}{x:cm}: ∀{t:List (Int×Int)},x∈zc a q t→ ∃p∈t,x=(p.2,(a,(sg q p.1,())))
 |[],h=>nomatch h
 |p::t,h=>by
  rw[pQ]at h
  split at h
  ·obtain⟨p',hp,e⟩:=z6 h
   exact⟨p',auk _ hp,e⟩
  ·rcases auy.1 h with e|h
   ·exact⟨p,auo ..,e⟩
   ·obtain⟨p',hp,e⟩:=z6 h
    exact⟨p',auk _ hp,e⟩
theorem Dz(a q:Int): ∀t:List (Int×Int),(zc a q t).length≤t.length
 |[]=>aul _
 |p::t=>by
  have:=Dz a q t
  rw[pQ,auj]
  split
  ·omega
  ·rw[auj];omega
theorem rp{c:ae}{b:ah}(h:dn c b=true):pF b.2.2.2.1=true∧fm c=true:=by
 unfold dn at h
 have h0:=auF.1 h
 have h1:=(auF.1 h0.2).2
 have h2:=auF.1 h1
 exact⟨(auF.1 (auF.1 h2.2).2).1,h0.1⟩
theorem PI{c:ae}{b:ah}(hB:dn c b=true)(w:q6 b){a:Int}(h:(fb c b a).2=0):n0 (fb c b a).1 65:=by
 obtain⟨_,hk⟩:=jC hB
 obtain⟨hf,Hv⟩:=rp hB
 have hq:=uV hk w.qs
 have hh:=uU hq 0 a
 obtain⟨hs,yx⟩:=dV hk
 unfold fb at h ⊢
 rw[auh hB]at h ⊢
 by_cases h1:a<0
 ·rw[auh h1];exact n0.nil _
 rw[aui h1]at h ⊢
 by_cases h2:(c.1.length:Int)≤a
 ·rw[auh h2];exact n0.nil _
 rw[aui h2]at h ⊢
 by_cases h3:aT b.2.2.2.1 0 a=0
 ·rw[auh h3];exact n0.nil _
 rw[aui h3]at h ⊢
 by_cases h4:(fa b.2.2.2.1 a (aT b.2.2.2.1 0 a)).2.2=0
 ·rw[auh h4]
  have I8:eh 0 a b.2.2.2.1=aT b.2.2.2.1 0 a:=by unfold aT;rw[hk];rfl
  have hn6:a<6:=by
   unfold fm at Hv
   have:=(auw (auF.1 Hv).1).2
   omega
  have hz:(cO a b.2.2.2.1).sum=0:=by
   unfold pF at hf
   have DW:=auw (auF.1 hf).1 a.toNat (by unfold gr;omega)
   unfold pE eo pD at DW
   rw[hk,auh rfl,show((a.toNat:Nat):Int)=a by omega]at DW
   exact DW
  generalize aT b.2.2.2.1 0 a=q at*
  obtain⟨f,g1,g2,g3⟩:=vT hk w.qs hh h4
  have XO:=OX f (zP hs hz I8 h3)
  have IL:=f.c.s
  rw[XO,axd]at IL
  have hzl:((fa b.2.2.2.1 a q).1.zip (nW (cn a q b.2.2.2.1))).map (·.1)=(fa b.2.2.2.1 a q).1:=List.map_fst_zip (by rw[ym];omega)
  have hsg:sg q (q.natAbs:Int)=q:=by unfold sg;split<;>omega
  have hzz: ∀x∈zc a q ((fa b.2.2.2.1 a q).1.zip (nW (cn a q b.2.2.2.1))),bT x.1 x.2.1∧aB (dt x)∧nQ (dt x):=fun x hx=>by
   obtain⟨p,hp,rfl⟩:=z6 hx
   obtain⟨i,hi,e⟩:=avq hp
   rw[avN]at hi
   have e':=Dn (out:=(fa b.2.2.2.1 a q).1) (accs:=nW (cn a q b.2.2.2.1)) (i:=i) (by omega) (by omega)
   rw[aub,auf (by rw[avN];omega)]at e'
   have ep:p=_:=e.symm.trans e'
   have hr:=g3 i (by omega)
   rw[ep]
   refine⟨?_,afc hr.1 hr.2⟩
   have hm:(nW (cn a q b.2.2.2.1)).getD i 0∈nW (cn a q b.2.2.2.1):=by
    rw[aub,auf (by omega)];exact auT _
   obtain⟨y,hy,ey⟩:=auW.1 hm
   have JS:=iW hy
   have hpy:=(yx y JS.1).1
   have g: ∀u v z:Int,bT u v→v=a→u=z→bT z a:=fun u v z h e1 e2=>by rw[←e1,←e2];exact h
   exact g _ _ _ hpy JS.2.2 ey
  refine⟨fun x hx=> ?_,fun x hx=> ?_,?_,fun i=> ?_⟩
  ·rcases auy.1 hx with e|hx
   ·rw[e];show bT 0 a;unfold bT;omega
   ·exact(hzz x hx).1
  ·rcases auy.1 hx with e|hx
   ·rw[e];exact akq hh
   ·exact(hzz x hx).2
  ·unfold Sg
   rw[auj]
   have:=Dz a q ((fa b.2.2.2.1 a q).1.zip (nW (cn a q b.2.2.2.1)))
   rw[avN]at this
   omega
  ·unfold Sg
   rw[dU]
   dsimp only
   by_cases e:a=i
   ·rw[auh e,auO,I7,auh e,hzl,IL,hsg]
    show 0-q+q=0
    omega
   ·rw[aui e,I7,aui e]
 ·rw[aui h4]at h
  exact absurd h h4
def KA(c:ae)(b:ah):Nat→Nat→aj→ah×Int
 |0,_,s=>ye b s []
 |m+1,i,s=>if(fb c b (i:Int)).2=0 then KA c b m (i+1) (s++(fb c b (i:Int)).1)else((bN,(cL,(br,(br,(c5,(de,())))))),(fb c b (i:Int)).2)
def DA(c:ae)(b:ah):ah×Int:=if dn c b then KA c b c.1.length 0 []else((bN,(cL,(br,(br,(c5,(de,())))))),1)
theorem Mt:OE []:=⟨fun x hx=>(nomatch hx),fun x hx=>(nomatch hx),au3 _,rfl⟩
theorem S2(N:Nat)(hN:5000000≤N)(c:ae){b:ah}(w:De b):yp N c b=some (DA c b):=by
 unfold yp yp.b DA
 rw[Kc N (by omega) w.w,at7,cond_not]
 by_cases hB:dn c b=false
 ·rw[hB];rfl
 rw[Bool.not_eq_false]at hB
 rw[hB,aua,auh rfl]
 obtain⟨hr,hs⟩:=jC hB
 have h6:c.1.length≤6:=by
  have Hv:=(rp hB).2
  unfold fm at Hv
  exact(auw (auF.1 Hv).1).2
 have key: ∀(m n i:Nat) (s:aj),i+m=c.1.length→m<n→n0 s (65*i)→yp.l5 N n c b (bN,(cL,(br,(br,(c5,(de,())))))) s (c.1.length:Int) (i:Int)=some (KA c b m i s):=by
  intro m n
  induction n generalizing m with
  |zero=>intro i s _ hn _;omega
  |succ n ih=>
   intro i s hi hn I
   unfold yp.l5 yp.du
   have hls:=I.len
   match m,hi,hn with
   |0,hi,hn=>
    have hmv:=OJ N (by omega) w.w hr hs w.r w.s (I.akE (by omega)) Mt
    rw[az (by omega),auc]
    show(F65 N b s ([].map gM)).bind _=some (ye b s [])
    rw[hmv,at7]
   |m+1,hi,hn=>
    rw[aC (by omega),aua,yn N hN c w.w,at7,cond_not,aG,an (x:=(i:Int)+1) (by omega) (by omega),aa i]
    show _=some (if(fb c b (i:Int)).2=0 then KA c b m (i+1) (s++(fb c b (i:Int)).1)else((bN,(cL,(br,(br,(c5,(de,())))))),(fb c b (i:Int)).2))
    by_cases h:(fb c b (i:Int)).2=0
    ·have J:=PI hB w.w h
     have hlj:=J.len
     rw[auh h,auh h,bs (by omega),aua]
     exact ih m (i+1) _ (by omega) (by omega) (I.app J (by omega))
    ·rw[aui h,aui h]
 exact key c.1.length N 0 [] (by omega) (by omega) (n0.nil _)
theorem I9(N:Nat){l:aj}(hl:l.length≤100000)(hN:200000≤N):vU N l l=some true:=by
 unfold vU vU.b
 rw[oQ,auq,auc]
 refine vI (F:=fun n i=>vU.l4 N n l l i) (len:=l.length) (fun n i hi hr=> ?_) (fun n=> ?_) l.length N 0 (by omega) (by omega) (by omega)
 ·unfold vU.l4 vU.cT
  rw[aC (by omega),aua,aI (by omega) (by omega),aua,aua,IE,auq,auc,an (x:=(i:Int)+1) (by omega) (by omega),aa i]
  exact hr
 ·unfold vU.l4 vU.cT
  rw[az (by omega),auc]
def tC:ae:=([((0:Int),((100:Int),ch))],((0:Int),((0:Int),((0:Int),((0:Int),((1:Int),((0:Int),())))))))
def tS:aj:=[((0:Int),((0:Int),((3:Int),()))),((1:Int),((0:Int),((-4:Int),()))),((2:Int),((0:Int),((-2:Int),()))),((3:Int),((0:Int),((3:Int),())))]
def tB:ah:=([((1:Int),((1:Int),()))],([((1:Int),((1:Int),((1:Int),((0:Int),())))),((2:Int),((1:Int),((2:Int),((0:Int),())))),((3:Int),((1:Int),((2:Int),((0:Int),()))))],(([]:aj),(tS,([(100:Int)],(de,()))))))
theorem tW:De tB:=⟨⟨by decide,by decide,by decide,by decide,by decide,by decide,fun x hx=>(nomatch hx),Sb (l:=tS) (by decide)⟩,by decide,by decide⟩
def tL0:aj:=[((0:Int),((0:Int),((-3:Int),()))),((1:Int),((0:Int),((2:Int),()))),((2:Int),((0:Int),((1:Int),())))]
def tL1:aj:=[((1:Int),((0:Int),((-2:Int),()))),((2:Int),((0:Int),((-1:Int),()))),((3:Int),((0:Int),((3:Int),())))]
theorem tC0:fb tC tB 0=(tL0,0):=by kernel_rfl
theorem tC1:(fb tC tB 1).2=3:=by kernel_rfl
theorem tT0:(DA tC tB).2=0:=by kernel_rfl
theorem tT1:(DA tC tB).1.2.2.2.1=tL1:=by kernel_rfl
theorem Mu(N:Nat)(hN:5000000≤N):F26 N=some true:=by
 unfold F26 F86
 rw[at7]
 show(lz N tC tB 0).bind _=_
 rw[yn N hN tC tW.w,at7,tC0]
 show(yp N tC tB).bind _=_
 rw[S2 N hN tC tW,at7]
 show(lz N tC tB 1).bind _=_
 rw[yn N hN tC tW.w,at7,tC1,tT0,tT1]
 have h1:vU N tL0 tL0=some true:=I9 N (by decide) (by omega)
 have h2:vJ N tL1 tL1=some true:=LS N (by decide) (by omega)
 show cond (ay 0 0) ((vU N tL0 tL0).bind fun r5=>cond (r5) (cond (ay 0 0) ((vJ N tL1 tL1).bind fun r6=>cond (r6) (some (ay 3 3)) (some false)) (some false)) (some false)) (some false)=some true
 rw[h1,h2]
 simp only[oQ,aua,at7]
namespace Pure
end Pure
end VM
end
section
namespace VM
open Go VM.F Go.RowKit
theorem vV(a q:Int): ∀l:aj,(cn a q l).Sublist l
 |[]=>List.Sublist.refl _
 |x::t=>by
  rw[iK]
  split
  ·exact(vV a q t).cons_cons _
  ·exact(vV a q t).cons _
theorem vW{a q:Int}{x:cm}: ∀{l:aj},x∈cn a q l→ti (dt x) q
 |[],h=>nomatch h
 |y::t,h=>by
  rw[iK]at h
  split at h
  ·rename_i hy
   rcases auy.1 h with rfl|h
   ·exact hy.2.2
   ·exact vW h
  ·exact vW h
theorem z7{a q:Int}{x:cm}(h1: ¬eo x.1 0)(h2:eo x.2.1 a)(h3:ti (dt x) q): ∀{l:aj},x∈l→x∈cn a q l
 |[],h=>nomatch h
 |y::t,h=>by
  rw[iK]
  rcases auy.1 h with rfl|h
  ·rw[auh ⟨h1,h2,h3⟩];exact auo ..
  ·split
   ·exact auk _ (z7 h1 h2 h3 h)
   ·exact z7 h1 h2 h3 h
theorem Z3{a b c d e:Int}(h:gW a b c d)(h1:b=e)(h2:d=e):a<c:=by unfold gW at h;omega
theorem S3{l:aj}(hk:cG l=true)(a q:Int):(nW (cn a q l)).Pairwise (fun x y=>x<y):=by
 have h:=aw1 (vV a q l) (awY.1 (dV hk).1)
 exact awY.2 (h.imp_of_mem fun hx hy hr=>Z3 hr (iW hx).2.2 (iW hy).2.2)
theorem KB{A:List Int}(h:A.Pairwise (fun x y=>x<y)){i j:Nat}(np:i<j)(hj:j<A.length):A.getD i 0<A.getD j 0:=by
 have:=awb.1 h i j (by omega) hj np
 rw[aub,aub,auf hj,auf (show i<A.length by omega)]
 exact this
structure Bd(A:List Int)(a:Int)(j:Nat):Prop where
 le:j≤A.length
 lo: ∀t,t<j→A.getD t 0<a
 hi: ∀t,j≤t→t<A.length→a≤A.getD t 0
theorem KC{A:List Int}(h:A.Pairwise (fun x y=>x<y)){a:Int}{j:Nat}(p:Bd A a j):(j<A.length∧A.getD j 0=a∧Bd A (a+1) (j+1))∨((∀t,t<A.length→A.getD t 0≠a)∧Bd A (a+1) j):=by
 obtain⟨p1,p2,p3⟩:=p
 by_cases hj:j<A.length∧A.getD j 0=a
 ·refine .inl ⟨hj.1,hj.2,by omega,fun t ht=> ?_,fun t ht hl=> ?_⟩
  ·by_cases e:t=j
   ·rw[e,hj.2];omega
   ·have:=p2 t (by omega);omega
  ·have:=KB h (show j<t by omega) hl
   omega
 ·have fL: ∀t,t<A.length→A.getD t 0≠a:=fun t hl e=>by
   by_cases h1:t<j
   ·have:=p2 t h1;omega
   ·by_cases h2:t=j
    ·exact hj ⟨by omega,by rw[←h2];exact e⟩
    ·have:=KB h (show j<t by omega) hl
     have:=p3 j (aul _) (by omega)
     omega
  refine .inr ⟨fL,p1,fun t ht=> ?_,fun t ht hl=> ?_⟩
  ·have:=p2 t ht;omega
  ·have:=p3 t ht hl
   have:=fL t hl
   omega
theorem PJ{A:List Int}{j:Nat}(p:Bd A 25 j)(h: ∀t,t<A.length→A.getD t 0≤24):j=A.length:=by
 have:=p.le
 by_cases e:j<A.length
 ·have:=p.hi j (aul _) e
  have:=h j e
  omega
 ·omega
structure Z4(l:aj)(i q:Int)(A W out:List Int):Prop where
 lw:W.length=A.length
 lo:out.length=A.length
 srt:A.Pairwise (fun x y=>x<y)
 acc: ∀t,t<A.length→1≤A.getD t 0∧A.getD t 0≤24
 Qz: ∀t,t<A.length→aT l (A.getD t 0) i≠0∧ ¬((0<aT l (A.getD t 0) i)↔(0<q))∧((aT l (A.getD t 0) i).natAbs:Int)=W.getD t 0
 no: ∀a:Int,1≤a∧a≤24→(∀t,t<A.length→A.getD t 0≠a)→aT l a i=0∨((0<aT l a i)↔(0<q))
 pos:Pos W
 si:W.sum<9223372036854775808
 qq:(aB q∧nQ q)∧q≠0
 off: ∀t,t<A.length→0≤out.getD t 0∧out.getD t 0<9223372036854775808∧(out.getD t 0*W.sum-(q.natAbs:Int)*W.getD t 0).natAbs<W.sum
theorem Ja{t:Int}{w:List Int}(ht:0<t)(hle:t≤w.sum)(hw:Pos w):(g6 w w (w.length+1) (List.replicate w.length 0) t).1=aM t w:=by
 have hS:0<w.sum:=by omega
 have e1:a8 w w (List.replicate w.length 0)=w:=gw (cA ..) fun i hi=>by
  rw[cA]at hi
  unfold a8
  rw[dh hi,fu]
  have:=dk hw i
  split<;>omega
 have hlw:=eN t w
 have IL:=mN (w:=w) (av1 ht) hS
 have akF: ∀i,i<w.length→(aM t w).getD i 0≤w.getD i 0:=fun i hi=>by
  have h0:=dk hw i
  by_cases hz:w.getD i 0=0
  ·rw[rk (av1 ht) hS hz,hz];exact avo _
  ·rw[rV]
   have hx:=rW t w i
   by_cases e:t=w.sum
   ·have JQ:extra t w i=0:=by
     rcases hx with h|h
     ·exact h
     ·have:=vK (av1 ht) hS h
      rw[e,axm]at this;omega
    rw[JQ,e,awJ _ (by omega)];omega
   ·have h1:t*w.getD i 0/w.sum<w.getD i 0:=by
     rw[avA hS,auY (w.getD i 0)]
     exact axc (by omega) (by omega)
    omega
 have e2:cz (aM t w) w (List.replicate w.length 0)=aM t w:=gw (by rw[jH,aun,hlw]) fun i hi=>by
  rw[jH,aun]at hi
  unfold cz
  rw[dh (by rw[aun];exact hi),fu]
  have:=akF i hi
  omega
 have e3:nz (List.replicate w.length 0) (aM t w)=aM t w:=gw (by unfold nz;rw[dI,aun,hlw]) fun i hi=>by
  unfold nz at hi ⊢
  rw[dI]at hi
  rw[dh hi,fu,axE]
 unfold g6
 rw[e1,aui (by omega),e2,e3,IL,Int.sub_self]
 cases w.length with
 |zero=>rfl
 |succ n=>unfold g6;rw[auh (Or.inl rfl)]
theorem S4{x q:Int}(hx:x≠0)(hq:q≠0)(h:ti x q): ¬((0<x)↔(0<q)):=(FZ hx hq).1 h
theorem F0{l:aj}(hk:cG l=true){x:cm}(hx:x∈l):aT l x.1 x.2.1=dt x:=by
 unfold aT
 rw[hk,auh rfl]
 have key: ∀{l:aj},vG (l.map keyOf)→x∈l→eh x.1 x.2.1 l=dt x:=by
  intro l
  induction l with
  |nil=>intro _ h;exact nomatch h
  |cons y t ih=>
   intro hs h
   obtain⟨h1,h2⟩:=au1.1 hs
   rw[fp]
   rcases auy.1 h with rfl|h
   ·rw[auh rfl,auh rfl];rfl
   ·have fL: ¬(y.1=x.1∧y.2.1=x.2.1):=fun e=>by
     have hk:=h1 (keyOf x) (au8 h)
     have he:keyOf y=keyOf x:=axx e.1 e.2
     rw[he]at hk
     exact pG hk
    by_cases e1:y.1=x.1
    ·rw[auh e1,aui (fun e2=>fL ⟨e1,e2⟩)];exact ih h2 h
    ·rw[aui e1];exact ih h2 h
 exact key (dV hk).1 hx
theorem Mv{l:aj}(hk:cG l=true){a i:Int}(h:aT l a i≠0): ∃x∈l,x.1=a∧x.2.1=i:=by
 unfold aT at h
 rw[hk,auh rfl,rZ (dV hk).1]at h
 exact S1 h
theorem yq{P:aj}{t:Nat}(h:t<P.length):(nW P).getD t 0=(P.getD t aW).1∧(di P).getD t 0=((dt (P.getD t aW)).natAbs:Int):=by
 unfold nW di
 rw[aub,aub,aub,avw,avw,auf h]
 exact⟨rfl,rfl⟩
theorem Mw{a b:Int}(h:bT a b)(h0: ¬a=0):1≤a∧a≤24:=by unfold bT at h;omega
theorem Jb{c:ae}{b:ah}(w:q6 b){i:Int}(hi:0≤i∧i<(c.1.length:Int)):
  ((fb c b i).2≠0∧(fb c b i).1=[])∨(aT b.2.2.2.1 0 i=0∧(fb c b i).1=[])∨
  (aT b.2.2.2.1 0 i≠0∧ ∃A W out,Z4 b.2.2.2.1 i (aT b.2.2.2.1 0 i) A W out∧fb c b i=(((0:Int),(i,((0-aT b.2.2.2.1 0 i:Int),())))::zc i (aT b.2.2.2.1 0 i) (out.zip A),0)):=by
 by_cases hB:dn c b=true
 ·obtain⟨_,hk⟩:=jC hB
  obtain⟨hf,Hv⟩:=rp hB
  obtain⟨hs,yx⟩:=dV hk
  have hqs:=w.qs
  have hh:=uU (uV hk hqs) 0 i
  unfold fb
  rw[auh hB,aui (by omega),aui (by omega)]
  by_cases h3:aT b.2.2.2.1 0 i=0
  ·rw[auh h3];exact .inr (.inl ⟨h3,rfl⟩)
  rw[aui h3]
  by_cases h4:(fa b.2.2.2.1 i (aT b.2.2.2.1 0 i)).2.2=0
  ·rw[auh h4]
   refine .inr (.inr ⟨h3,?_⟩)
   have hn6:i<6:=by
    unfold fm at Hv
    have:=(auw (auF.1 Hv).1).2
    omega
   have hz:(cO i b.2.2.2.1).sum=0:=by
    unfold pF at hf
    have DW:=auw (auF.1 hf).1 i.toNat (by unfold gr;omega)
    unfold pE eo pD at DW
    rw[hk,auh rfl,show((i.toNat:Nat):Int)=i by omega]at DW
    exact DW
   have I8:eh 0 i b.2.2.2.1=aT b.2.2.2.1 0 i:=by unfold aT;rw[hk];rfl
   have YK:=zP hs hz I8 h3
   obtain⟨f,g1,g2,g3⟩:=vT hk hqs hh h4
   have hsh:(fa b.2.2.2.1 i (aT b.2.2.2.1 0 i)).1=aM ((aT b.2.2.2.1 0 i).natAbs:Int) (di (cn i (aT b.2.2.2.1 0 i) b.2.2.2.1)):=by
    unfold fa jK at h4 ⊢
    by_cases h1:((aT b.2.2.2.1 0 i).natAbs:Int)<0∨may (di (cn i (aT b.2.2.2.1 0 i) b.2.2.2.1))=false∨(di (cn i (aT b.2.2.2.1 0 i) b.2.2.2.1)).length≠(di (cn i (aT b.2.2.2.1 0 i) b.2.2.2.1)).length∨may (di (cn i (aT b.2.2.2.1 0 i) b.2.2.2.1))=false
    ·rw[auh h1]at h4;exact absurd h4 (by decide)
    ·rw[aui h1]at h4 ⊢
     by_cases h2:9223372036854775808≤(di (cn i (aT b.2.2.2.1 0 i) b.2.2.2.1)).sum
     ·rw[auh h2]at h4;exact absurd h4 (by decide)
     ·rw[aui h2]
      exact Ja (by omega) YK f.c.pw
   have XQ:=ym (cn i (aT b.2.2.2.1 0 i) b.2.2.2.1)
   have hsl:=rn (cn i (aT b.2.2.2.1 0 i) b.2.2.2.1)
   have jQ: ∀t,t<(cn i (aT b.2.2.2.1 0 i) b.2.2.2.1).length→(cn i (aT b.2.2.2.1 0 i) b.2.2.2.1).getD t aW∈cn i (aT b.2.2.2.1 0 i) b.2.2.2.1:=fun t ht=>Z2 ht
   refine⟨nW (cn i (aT b.2.2.2.1 0 i) b.2.2.2.1),di (cn i (aT b.2.2.2.1 0 i) b.2.2.2.1),(fa b.2.2.2.1 i (aT b.2.2.2.1 0 i)).1,⟨by omega,by omega,S3 hk _ _,fun t ht=> ?_,fun t ht=> ?_,fun a ha ot=> ?_,f.c.pw,f.c.sw,⟨hh,h3⟩,fun t ht=> ?_⟩,rfl⟩
   ·rw[XQ]at ht
    rw[(yq ht).1]
    have hm:=iW (jQ t ht)
    exact Mw (yx _ hm.1).1 hm.2.1
   ·rw[XQ]at ht
    rw[(yq ht).1,(yq ht).2]
    have hm:=iW (jQ t ht)
    have e:=F0 hk hm.1
    rw[show((cn i (aT b.2.2.2.1 0 i) b.2.2.2.1).getD t aW).2.1=i from hm.2.2]at e
    rw[e]
    have Y7:=FY hk _ hm.1
    exact⟨Y7,S4 Y7 h3 (vW (jQ t ht)),rfl⟩
   ·by_cases h0:aT b.2.2.2.1 a i=0
    ·exact .inl h0
    ·refine .inr ?_
     obtain⟨x,hx,e1,e2⟩:=Mv hk h0
     have e:=F0 hk hx
     rw[e1,e2]at e
     have Y7:=FY hk _ hx
     refine avP fun S5=> ?_
     rw[e]at S5
     have jP:x∈cn i (aT b.2.2.2.1 0 i) b.2.2.2.1:=z7 (fun h=>by have h':a=0:=e1.symm.trans h;omega) e2 ((FZ Y7 h3).2 S5) hx
     obtain⟨t,ht,et⟩:=avq jP
     refine ot t (by rw[XQ];exact ht) ?_
     rw[(yq ht).1,aub,auf ht,av6,et,e1]
   ·rw[XQ]at ht
    have:=g3 t (by omega)
    refine⟨this.1,this.2,?_⟩
    rw[hsh]
    exact IM (by omega) (by omega) t
  ·rw[aui h4]
   exact .inl ⟨h4,rfl⟩
 ·unfold fb
  rw[aui hB]
  exact .inl ⟨by decide,rfl⟩
end VM
end
section
namespace VM
open Go VM.F Go.RowKit
theorem DB(i q:Int): ∀X Y:List (Int×Int),zc i q (X++Y)=zc i q X++zc i q Y
 |[],Y=>rfl
 |p::t,Y=>by
  rw[avz,pQ,pQ,DB i q t Y]
  split<;>rfl
theorem S6{i q:Int}{Z:List (Int×Int)}{j:Nat}(h:j<Z.length):zc i q (Z.take (j+1))=zc i q (Z.take j)++zc i q [Z.getD j (0,0)]:=by
 rw[←DB,aub,auf h,awW h];rfl
theorem S7{i q:Int}{Z:List (Int×Int)}{j:Nat}(h:j<Z.length):zc i q (Z.drop j)=zc i q [Z.getD j (0,0)]++zc i q (Z.drop (j+1)):=by
 rw[←DB,aub,auf h,au2 h];rfl
theorem Z5{i q:Int}(p:Int×Int):zc i q [p]=if sg q p.1=0 then []else [((p.2,(i,(sg q p.1,()))):cm)]:=by
 rw[pQ];rfl
theorem rq{p q:Int}:lR .bool (aH 0 p) (aH 0 q)=true↔((0<p)↔(0<q)):=by
 rw[qV,ma,ma]
 by_cases h1:0<p<;>by_cases h2:0<q<;>simp[h1,h2]
theorem Z6{q x:Int}(h:0≤x):((sg q x).natAbs:Int)=x:=by unfold sg;split<;>omega
theorem S8{q x:Int}(h:0≤x)(hq:q≠0)(hx:sg q x≠0):(0<sg q x)↔(0<q):=by
 unfold sg at*;split at hx<;>split<;>omega
theorem Z7{q x:Int}(h:0≤x)(h1:x<9223372036854775808): -9223372036854775808≤sg q x∧sg q x<9223372036854775808:=by
 unfold sg;split<;>omega
theorem z8{x:Int}{k:Nat}(hk:2≤k)(h0: -9223372036854775808≤x)(h1:x<9223372036854775808):Fit x k:=(Fit.i64 h0 h1).mono hk
theorem PK(N:Nat)(hN:5000000≤N){K:F8.gY}{b:ah}{i q S k a x:Int}{s:aj}(hb:b.2.2.2.1.length≤100000)(hp:aB (aT b.2.2.2.1 a i)∧nQ (aT b.2.2.2.1 a i))(hq:(aB q∧nQ q)∧q≠0)(hS:0≤S∧S<9223372036854775808)
  (ot:aT b.2.2.2.1 a i=0∨((0<aT b.2.2.2.1 a i)↔(0<q))→x=0)
  (afg:aT b.2.2.2.1 a i≠0→ ¬((0<aT b.2.2.2.1 a i)↔(0<q))→ ∃y,x=sg q y∧(0≤y∧y<9223372036854775808)∧(y*S-(q.natAbs:Int)*((aT b.2.2.2.1 a i).natAbs:Int)).natAbs<S)
  (hK:Ok (fun r=>r=true) (K b i s q (bX S) k (W .i64 (a+1)))):Ok (fun r=>r=true) (F8.J5 N K b i s q (bX S) k a x):=by
 unfold F8.J5 F8.Ii
 refine bJ (uG N hb (by omega) a i) (ok_eq (fun h0=>bA (fun h=>absurd (ot (.inl h0)) h) fun _=>hK) fun h0=>oT (fun h=>bA (fun h'=>absurd (ot (.inr (rq.1 h))) h') fun _=>hK) fun hf=> ?_)
 have S5: ¬((0<aT b.2.2.2.1 a i)↔(0<q)):=fun h=>by rw[rq.2 h]at hf;exact nomatch hf
 obtain⟨y,rfl,hy,ar4⟩:=afg h0 S5
 clear afg ot
 have hpa:=oW hp
 have hqa:=oW hq.1
 have XT:=hp.1
 have MK:=hq.1.1
 unfold aB at XT MK
 have hr:=Z7 (q:=q) hy.1 hy.2
 generalize aT b.2.2.2.1 a i=p at*
 have f1:Fit y 2:=Fit.i64 (by omega) hy.2
 have f2:Fit S 2:=Fit.i64 (by omega) hS.2
 have f3:Fit (q.natAbs:Int) 2:=Fit.i64 (by omega) hqa
 have f4:Fit (p.natAbs:Int) 2:=Fit.i64 (by omega) hpa
 have f5:Fit (y*S) 4:=f1.mul f2
 have f6:Fit ((q.natAbs:Int)*(p.natAbs:Int)) 4:=f3.mul f4
 have f7:Fit (y*S-(q.natAbs:Int)*(p.natAbs:Int)) 5:=by rw[axl];exact f5.add f6.neg
 refine bJ (eX N (by omega) hr.1 hr.2) (bJ (oL N (by omega) (z8 (by omega) hr.1 hr.2)) ?_)
 rw[Z6 hy.1]
 refine bJ (ug N (by omega) (f1.mono (by omega)) (f2.mono (by omega))) (bJ (eX N (by omega) MK.1 (by omega)) (bJ (oL N (by omega) (z8 (by omega) MK.1 (by omega))) (bJ (eX N (by omega) XT.1 (by omega)) (bJ (oL N (by omega) (z8 (by omega) XT.1 (by omega))) (bJ (ug N (by omega) (f3.mono (by omega)) (f4.mono (by omega))) (bJ (pj N (by omega) (f5.mono (by omega)) (f6.mono (by omega))) (bJ (oL N (by omega) (f7.mono (by omega))) ?_)))))))
 have fin:Ok (fun r=>r=true) ((CY N (bX ((y*S-(q.natAbs:Int)*(p.natAbs:Int)).natAbs:Int)) (bX S)).bind fun Jc=>cond (bR 0 Jc) (some false) (K b i s q (bX S) k (W .i64 (a+1)))):=
  bJ (CX N (by omega) (z8 (by omega) (by omega) (by omega)) (f2.mono (by omega))) (cW (fun h=>by unfold qU at h;rw[auh (by omega)]at h;exact absurd h (by decide)) fun _=>hK)
 exact bA (fun hx=>bx (fun h=>by rw[rq.2 (S8 hy.1 hq.2 hx)]at h;exact nomatch h) fun _=>fin) fun _=>fin
theorem PL{α:Type}(D T:List α)(d:α):(D++T).getD D.length d=T.getD 0 d:=by
 rw[aub,aub,au5 (aul _),axb]
theorem uW{out A:List Int}(hl:out.length=A.length){p:Int×Int}{j:Nat}(h:p∈(out.zip A).drop j): ∃t,j≤t∧t<A.length∧p.2=A.getD t 0:=by
 obtain⟨m,hm,e⟩:=avq h
 rw[auP,avN]at hm
 refine⟨j+m,by omega,by omega,?_⟩
 rw[axr]at e
 have e':=Dn (out:=out) (accs:=A) (i:=j+m) (by omega) (by omega)
 rw[aub,auf (by rw[avN];omega)]at e'
 have:p=(out.getD (j+m) 0,A.getD (j+m) 0):=e.symm.trans e'
 rw[this]
theorem My(N:Nat)(hN:5000000≤N){b:ah}{i q:Int}{A V out:List Int}(hs: ∀x∈b.2.2.2.1,aB (dt x)∧nQ (dt x))(hb:b.2.2.2.1.length≤100000)(C:Z4 b.2.2.2.1 i q A V out)(hd:cm)(hA:A.length≤1000):
  Ok (fun r=>r=true) (F8.oa N N b i (hd::zc i q (out.zip A)) q (bX V.sum) 1 1):=by
 have hzl:(out.zip A).length=A.length:=by rw[avN,C.lo];omega
 have hzc:=Dz i q (out.zip A)
 have hWs:=c9 C.pos
 have split: ∀j,hd::zc i q (out.zip A)=(hd::zc i q ((out.zip A).take j))++zc i q ((out.zip A).drop j):=fun j=>by
  rw[avz,←DB,auR]
 refine fW (len:=25) (F:=fun n a (k:Int)=>F8.oa N n b i (hd::zc i q (out.zip A)) q (bX V.sum) k a) (fun a k=> ∃j,Bd A (a:Int) j∧k=((1+(zc i q ((out.zip A).take j)).length:Nat):Int)∧1≤a) (fun n a k ha hI hr=> ?_) (fun n k hI=> ?_) 25 N 1 1 (by omega) (by omega) (by omega) ⟨0,⟨au3 _,fun t ht=>by omega,fun t _ ht=>(C.acc t ht).1⟩,rfl,aul _⟩
 all_goals unfold F8.oa F8.ob
 ·obtain⟨j,hp,rfl,h1⟩:=hI
  have XL:=avH List.length (split j)
  rw[aug,auj (as:=zc i q ((out.zip A).take j))]at XL
  have akG:(hd::zc i q (out.zip A)).getD (1+(zc i q ((out.zip A).take j)).length) aW=(zc i q ((out.zip A).drop j)).getD 0 aW:=by
   rw[split j,Nat.add_comm 1,←auj (a:=hd) (as:=zc i q ((out.zip A).take j))];exact PL _ _ _
  have KD:=uU hs (a:Int) i
  have hw1:W .i64 ((a:Int)+1)=((a+1:Nat):Int):=by rw[an (by omega) (by omega),aa a]
  have hle:(hd::zc i q (out.zip A)).length≤1001:=by rw[auj];omega
  rw[aue,akG]
  generalize hn:1+(zc i q ((out.zip A).take j)).length=m at*
  have hw2:W .i64 ((m:Int)+1)=((m+1:Nat):Int):=by rw[an (by omega) (by omega),aa m]
  rw[hw2]
  have one: ∀(x k':Int),(aT b.2.2.2.1 (a:Int) i=0∨((0<aT b.2.2.2.1 (a:Int) i)↔(0<q))→x=0)→(aT b.2.2.2.1 (a:Int) i≠0→ ¬((0<aT b.2.2.2.1 (a:Int) i)↔(0<q))→ ∃y,x=sg q y∧(0≤y∧y<9223372036854775808)∧(y*V.sum-(q.natAbs:Int)*((aT b.2.2.2.1 (a:Int) i).natAbs:Int)).natAbs<V.sum)→
    (∃j',Bd A ((a+1:Nat):Int) j'∧k'=((1+(zc i q ((out.zip A).take j')).length:Nat):Int)∧1≤a+1)→Ok (fun r=>r=true) (F8.J5 N (F8.oa N n) b i (hd::zc i q (out.zip A)) q (bX V.sum) k' (a:Int) x):=fun x k' g1 g2 g3=>
   PK N hN hb KD C.qq ⟨hWs,C.si⟩ g1 g2 (by rw[hw1];exact hr k' g3)
  refine cW (fun _=> ?_) fun _=>by omega
  rcases KC C.srt hp with⟨hj,he,so⟩|⟨fL,so⟩
  ·rw[aa a]at so
   obtain⟨q0,q1,q2⟩:=C.Qz j hj
   rw[he]at q0 q1 q2
   obtain⟨o1,o2,o3⟩:=C.off j hj
   rw[←q2]at o3
   have hzj:=Dn (out:=out) (accs:=A) (i:=j) (by rw[C.lo];exact hj) hj
   have Sd:=S6 (i:=i) (q:=q) (Z:=out.zip A) (j:=j) (by omega)
   have XU:=S7 (i:=i) (q:=q) (Z:=out.zip A) (j:=j) (by omega)
   rw[Z5,hzj]at Sd XU
   dsimp only at Sd XU
   have yes:aT b.2.2.2.1 (a:Int) i≠0→ ¬((0<aT b.2.2.2.1 (a:Int) i)↔(0<q))→ ∃y,sg q (out.getD j 0)=sg q y∧(0≤y∧y<9223372036854775808)∧(y*V.sum-(q.natAbs:Int)*((aT b.2.2.2.1 (a:Int) i).natAbs:Int)).natAbs<V.sum:=fun _ _=>⟨_,rfl,⟨o1,o2⟩,o3⟩
   have no:aT b.2.2.2.1 (a:Int) i=0∨((0<aT b.2.2.2.1 (a:Int) i)↔(0<q))→sg q (out.getD j 0)=0:=fun h=>h.elim (fun h=>absurd h q0) fun h=>absurd h q1
   by_cases hz:sg q (out.getD j 0)=0
   ·rw[auh hz,auJ]at Sd
    rw[auh hz,auK]at XU
    rw[hz]at yes no
    have QB: ∃j',Bd A ((a+1:Nat):Int) j'∧(m:Int)=((1+(zc i q ((out.zip A).take j')).length:Nat):Int)∧1≤a+1:=⟨j+1,so,by rw[Sd,hn],by omega⟩
    refine av (fun dz=>aw ⟨by omega,dz⟩ (ok_eq (fun e=> ?_) fun _=>one 0 _ no yes QB)) fun _=>one 0 _ no yes QB
    exfalso
    rw[XU]at e
    have yL:0<(zc i q ((out.zip A).drop (j+1))).length:=by rw[XU]at XL;omega
    obtain⟨p,XT,hp2⟩:=z6 (Z2 (d:=aW) yL)
    rw[hp2]at e
    obtain⟨t,t1,t2,t3⟩:=uW C.lo XT
    have:=KB C.srt (show j<t by omega) t2
    rw[he,←t3]at this
    have e:p.2=(a:Int):=e
    omega
   ·rw[aui hz]at Sd XU
    have afh:(zc i q ((out.zip A).drop j)).getD 0 aW=(A.getD j 0,(i,(sg q (out.getD j 0),()))):=by rw[XU];rfl
    have dz:(m:Int)<((hd::zc i q (out.zip A)).length:Int):=by
     have:=avH List.length XU
     rw[aug,aud]at this
     omega
    rw[afh]
    have QB: ∃j',Bd A ((a+1:Nat):Int) j'∧((m+1:Nat):Int)=((1+(zc i q ((out.zip A).take j')).length:Nat):Int)∧1≤a+1:=⟨j+1,so,by rw[Sd,aug,aud,←hn];omega,by omega⟩
    exact av (fun _=>aw ⟨by omega,dz⟩ (ok_eq (fun _=>aw ⟨by omega,dz⟩ (one _ _ no yes QB)) fun e=>absurd he e)) fun h=>by omega
  ·rw[aa a]at so
   have QB: ∃j',Bd A ((a+1:Nat):Int) j'∧(m:Int)=((1+(zc i q ((out.zip A).take j')).length:Nat):Int)∧1≤a+1:=⟨j,so,by rw[hn],by omega⟩
   have hz:=C.no (a:Int) (by omega) fL
   have yes:aT b.2.2.2.1 (a:Int) i≠0→ ¬((0<aT b.2.2.2.1 (a:Int) i)↔(0<q))→ ∃y,(0:Int)=sg q y∧(0≤y∧y<9223372036854775808)∧(y*V.sum-(q.natAbs:Int)*((aT b.2.2.2.1 (a:Int) i).natAbs:Int)).natAbs<V.sum:=fun h1 h2=>absurd hz (fun h=>h.elim h1 h2)
   refine av (fun dz=>aw ⟨by omega,dz⟩ (ok_eq (fun e=> ?_) fun _=>one 0 _ (fun _=>rfl) yes QB)) fun _=>one 0 _ (fun _=>rfl) yes QB
   exfalso
   have yL:0<(zc i q ((out.zip A).drop j)).length:=by omega
   obtain⟨p,XT,hp2⟩:=z6 (Z2 (d:=aW) yL)
   rw[hp2]at e
   obtain⟨t,t1,t2,t3⟩:=uW C.lo XT
   exact fL t t2 (t3.symm.trans e)
 ·obtain⟨j,hp,rfl,h1⟩:=hI
  have hj:=PJ hp fun t ht=>(C.acc t ht).2
  refine cW (fun h=>absurd h (by decide)) fun _=>ag (bW ?_)
  rw[hj,←hzl,avF,auj];omega
theorem PM(N:Nat)(hN:5000000≤N){b:ah}{i q:Int}{A V out:List Int}(hs: ∀x∈b.2.2.2.1,aB (dt x)∧nQ (dt x))(hb:b.2.2.2.1.length≤100000)(C:Z4 b.2.2.2.1 i q A V out)(hA:A.length≤1000):
  Ok (fun r=>r=true) (F8.jB N N b i (((0:Int),(i,((0-q:Int),())))::zc i q (out.zip A)) q (bX 0) 1):=by
 have hWs:=c9 C.pos
 have hzl:(out.zip A).length=A.length:=by rw[avN,C.lo];omega
 have hzc:=Dz i q (out.zip A)
 refine fW (len:=25) (F:=fun n a (z:au)=>F8.jB N n b i (((0:Int),(i,((0-q:Int),())))::zc i q (out.zip A)) q z a) (fun a z=> ∃j,Bd A (a:Int) j∧z=bX (V.take j).sum∧1≤a) (fun n a z ha hI hr=> ?_) (fun n z hI=> ?_) 25 N 1 (bX 0) (by omega) (by omega) (by omega) ⟨0,⟨au3 _,fun t ht=>by omega,fun t _ ht=>(C.acc t ht).1⟩,rfl,aul _⟩
 all_goals unfold F8.jB F8.il
 ·obtain⟨j,hp,rfl,h1⟩:=hI
  have hw1:W .i64 ((a:Int)+1)=((a+1:Nat):Int):=by rw[an (by omega) (by omega),aa a]
  have KD:=uU hs (a:Int) i
  have hh1:=KD.1
  unfold aB at hh1
  have t0:=c9 (show Pos (V.take j)from fun x hx=>C.pos x (avh hx))
  have t1:=nV C.pos j
  have y6:=C.si
  rw[hw1]
  refine cW (fun _=>bJ (uG N hb (by omega) _ _) ?_) fun _=>by omega
  rcases KC C.srt hp with⟨hj,he,so⟩|⟨fL,so⟩
  ·rw[aa a]at so
   obtain⟨q0,q1,q2⟩:=C.Qz j hj
   rw[he]at q0 q1 q2
   have Q3:=oW KD
   refine bA (fun _=>bx (fun _=>bJ (eX N (by omega) hh1.1 (by omega)) (bJ (oL N (by omega) (z8 (by omega) hh1.1 (by omega))) (bJ (js N (by omega) (z8 (by omega) (by omega) (by omega)) (z8 (by omega) (by omega) (by omega))) (hr _ ⟨j+1,so,?_,by omega⟩)))) fun h=>absurd (rq.1 h) q1) fun h=>absurd h q0
   rw[dx V (by rw[C.lw];exact hj),q2]
  ·rw[aa a]at so
   have hz:=C.no (a:Int) (by omega) fL
   have QB:=hr _ ⟨j,so,rfl,by omega⟩
   exact bA (fun h0=>bx (fun h=>by rw[rq.2 (hz.elim (fun h=>absurd h h0) id)]at h;exact nomatch h) fun _=>QB) fun _=>QB
 ·obtain⟨j,hp,rfl,h1⟩:=hI
  have hj:=PJ hp fun t ht=>(C.acc t ht).2
  have MK:=C.qq.1.1
  have hq2:=C.qq.1.2
  have e0:W .i64 (0-q)=0-q:=by unfold aB at MK;unfold nQ at hq2;exact an (by omega) (by omega)
  rw[hj,←C.lw,avF,e0,auj]
  refine cW (fun h=>absurd h (by decide)) fun _=>ok_eq (fun h=>by omega) fun _=>aw ⟨by omega,by omega⟩ (bx (fun h=> ?_) fun _=>My N hN hs hb C _ hA)
  rw[show((((0:Int),(i,((0-q:Int),()))):cm)::zc i q (out.zip A)).getD (0:Int).toNat aW=((0:Int),(i,((0-q:Int),())))from rfl,IE]at h
  exact nomatch h
namespace Pure
theorem Jd(l:List Int)(a:Int)(h:WFs [.slice (.int .u64),.int .u8] (l,a)): ∃N,F8 N l a=some true:=by
 have key:Ok (fun r=>r=true) (F8 6000000 l a):=by
  obtain⟨hl,ha,_⟩:=h
  have ha:0≤a∧a≤255:=wf_u8.1 ha
  unfold F8 F8.b F13
  refine bJ (Mu 6000000 (by omega)) (bx (fun h=>nomatch h) fun _=>bJ rfl (af (L7 6000000 (by omega) (SZ hl)) fun c ⟨⟨hc,AP⟩,hd⟩=>af (I6 6000000 (by omega) hd ⟨hc,AP⟩ (by omega)) fun s ⟨hs,hd⟩=> ?_))
  have w:=G.wf (by omega) hs.2.2.1
  have DS:=hc.1.1
  have hi:=rem_in (x:=W .i64 a) (y:=(c.1.1.length:Int)) (by rw[an (by omega) (by omega)];omega) (by omega)
  refine ok_eq (fun e=>by omega) fun _=> ?_
  dsimp only
  generalize rem (W .i64 a) (c.1.1.length:Int)=i at*
  refine bJ (yn 6000000 (by omega) c.1 w.w i) (bJ (uG 6000000 w.w.s (by omega) 0 i) ?_)
  rcases Jb w.w hi with⟨h1,h2⟩|⟨h1,h2⟩|⟨h0,A,V,out,C,e⟩
  ·exact bA (fun _=>ag (by rw[h2];exact bW rfl)) fun h=>absurd h h1
  ·exact bA (fun _=>ag (by rw[h2];exact bW rfl)) fun _=>ok_eq (fun _=>ag (by rw[h2];exact bW rfl)) fun h=>absurd h1 h
  ·rw[e]
   refine bA (fun h=>absurd rfl h) fun _=>ok_eq (fun h=>absurd h h0) fun _=> ?_
   rw[←iQ]
   have hk:cG s.1.2.2.1.2.2.2.1=true:=avP fun h=>h0 (by unfold aT;rw[aui h])
   refine PM 6000000 (by omega) (uV hk w.w.qs) w.w.s C ?_
   have hlen:=C.acc
   refine avP fun y6=> ?_
   have key: ∀t,t<A.length→((t:Nat):Int)<A.getD t 0:=by
    intro t
    induction t with
    |zero=>intro ht;have:=(hlen 0 ht).1;omega
    |succ t ih=>
     intro ht
     have h1:=ih (by omega)
     have h2:=KB C.srt (show t<t+1 by omega) ht
     omega
   have h1:=key 30 (by omega)
   have h2:=(hlen 30 (by omega)).2
   omega
 obtain⟨r,e,hr⟩:=key
 exact⟨6000000,by rw[e,hr]⟩
end Pure
end VM
end
