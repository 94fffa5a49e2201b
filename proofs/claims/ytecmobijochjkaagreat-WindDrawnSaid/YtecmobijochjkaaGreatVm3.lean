/- A part of the proof of WindDrawn of layer 21: a machine that reads a function of the program as an equation between values. -/
import Derived.Test.YtecmobijochjkaaGreatVm2
import Derived.Great.FillDense
set_option linter.all false
section
namespace VM
open Go
variable{P:Program}{E:Env}{o:Oper}{a:Act}{w:World}{M:Nat→Prop}{ν:Nat→Value}{σ:St}{c:Ctx}{α:Type}{r:α}{next:Act→World→Prop}{Q:Exit→Act→World→Prop}
theorem Ve(off:Nat)(new:Array Value)(cs:Array Value)(h:off+new.size≤cs.size):
  (new.zipIdx.foldl (λcs (x:Value×Nat)=>cs.setIfInBounds (off+x.2) x.1) cs)=(e8 cs.toList off new.toList).toArray:=by
 have h1:new.zipIdx.foldl (λcs (x:Value×Nat)=>cs.setIfInBounds (off+x.2) x.1) cs=(new.toList.zipIdx 0).foldl (λcs (x:Value×Nat)=>cs.setIfInBounds (off+x.2) x.1) cs:=by
  rw[←Array.foldl_toList,Array.toList_zipIdx]
 rw[h1]
 obtain⟨hs,hk⟩:=Great.foldl_set off new.toList 0 cs
 apply Array.ext_getElem?
 intro k
 rw[hk k,←gL (xs:=cs)]
 have hl:new.toList.length=new.size:=bG
 have hc:cs.toList.length=cs.size:=bG
 unfold e8
 rw[Lw]
 by_cases h2:k<off
 ·rw[ah ω,br,rS (by rw[cc];omega),List.getElem?_take_of_lt h2]
 ·by_cases h3:k<off+new.size
  ·rw[aj ω,rS (by rw[aS,cc];omega),oq (by rw[cc];omega),cc]
   congr 1
   omega
  ·rw[ah ω,oq (by rw[aS,cc];omega),aS,cc,lF]
   congr 1
   omega
theorem HS{place:Nat→Option (Nat×Nat)}{cs:Array Value}{i:Nat}{v:Value}{rest:List (Nat×Value)}{off s:Nat}(hp:place i=some (off,s))(hs:v.cells.size=s)(h:off+s≤cs.size):
  Instr.fill place cs ((i,v)::rest)=Instr.fill place (e8 cs.toList off v.cells.toList).toArray rest:=by
 have h1: ¬(decide (v.cells.size≠s)||decide (off+v.cells.size>cs.size))=true:=by simp[hs];omega
 conv=>lhs;unfold Instr.fill
 rw[hp]
 simp only
 rw[ah h1]
 congr 1
 exact Ve off v.cells cs ω
theorem tU(a:Act)(ps:Array (Nat×Operand)):(ps.map λ(i,x)=>(i,a.eval x)).toList=ps.toList.map λp=>(p.1,a.eval p.2):=by
 rw[Array.toList_map]
def PR(w:World)(M:Nat→Prop)(H:Nat→Option bh)(ν:Nat→Value):List (Nat×bC)→List (Nat×Value)→Prop
 |[],[]=>True
 |p::ps,q::qs=>p.1=q.1∧VR w M H ν p.2 q.2∧PR w M H ν ps qs
 |_,_=>False
theorem PR.bZ{w':World}{M':Nat→Prop}{H H':Nat→Option bh}{ν':Nat→Value}(k:eY w M w' M')(g:sE H ν H' ν'): ∀{ps:List (Nat×bC)} {qs:List (Nat×Value)},PR w M H ν ps qs→PR w' M' H' ν' ps qs
 |[],[],_=>trivial
 |_::_,_::_,h=>⟨h.1,h.2.1.bZ k g,PR.bZ k g h.2.2⟩
 |[],_::_,h=>h.elim
 |_::_,[],h=>h.elim
theorem Core.pr(hc:Core c σ a.tmps w M ν): ∀ps:List (Nat×Operand),PR w M σ.H ν (ps.map λp=>(p.1,σ.ρ p.2)) (ps.map λp=>(p.1,a.eval p.2))
 |[]=>trivial
 |p::ps=>⟨rfl,hc.ev p.2,hc.pr ps⟩
theorem B4{e:Ty}{n:Nat}{H:Nat→Option bh}: ∀(ps:List (Nat×bC)) (qs:List (Nat×Value)) (H1:Nat→Option bh) (M:Nat→Prop) (l:List e.den) (cs:Array Value) (rd:List Nat) (ups:iP) (K:List e.den→List Nat→iP→Option α),
  Fz H H1→Mem c H1 w M ν→PR w M H1 ν ps qs→l.length=n→cs.size=n*e.size→qJ w M e cs.toList l→H1=c3 H ups→vL e H n ps l rd ups K=some r→
  ∃l' AW nN M' cs',K l' AW nN=some r∧Tr c H1 w M ν (c3 H nN) w M' ν∧Fz H (c3 H nN)∧l'.length=n∧cs'.size=n*e.size∧qJ w M' e cs'.toList l'∧
   Instr.fill (λi=>some (i*e.size,e.size)) cs qs=some cs':=by
 intro ps
 induction ps with
 |nil=>
  intro qs H1 M l cs rd ups K hz hm hp hl hs hr hH h
  cases qs with
  |cons _ _=>exact hp.elim
  |nil=>exact⟨l,rd,ups,M,cs,h,hH▸Tr.refl hm,hH▸hz,hl,hs,hr,rfl⟩
 |cons p ps ih=>
  intro qs H1 M l cs rd ups K hz hm hp hl hs hr hH h
  cases qs with
  |nil=>exact hp.elim
  |cons q qs=>
   obtain⟨h1,h2,h3⟩:=hp
   unfold vL at h
   obtain⟨hb,h⟩:=cA h
   have eZ:p.1<n:=by simpa [zu]using hb
   obtain⟨y,rd1,PH,M1,h,ic,hV,B5,_⟩:=nP hz hm h2 h
   have hlen:(q.2.cells).size=e.size:=by rw[←bG];exact hV.cells.length
   have hmul:=eh (s:=e.size) eZ
   have xL:=qJ.set (hr.bZ ic.bZ) (by rw[hl,bG,hs];exact aG _) (i:=p.1) ω hV.cells
   obtain⟨l',AW,nN,M',cs',hK,agQ,CY,Jv,Re,eJ,hf⟩:=ih qs (c3 H1 PH) M1 (l.set p.1 y) (e8 cs.toList (p.1*e.size) q.2.cells.toList).toArray (rd1++rd) (ups++PH) K B5 ic.mem (h3.bZ ic.bZ ic.goes)
    (by rw[bN];exact hl) (by rw[iR,gz (by rw[bG,bG];omega),bG,hs]) xL (by rw[gm,hH]) h
   refine⟨l',AW,nN,M',cs',hK,ic.trans agQ,CY,Jv,Re,eJ,?_⟩
   rw[HS (off:=p.1*e.size) (s:=e.size) (by rw[h1]) hlen ω]
   exact hf
theorem JG{τ:Ty}{H:Nat→Option bh}{place:Nat→Option (Nat×Nat)}(G4: ∀(x:τ.den) n υ y o,CU τ x n υ y o→place n=some (o,υ.size)):
  ∀(ps:List (Nat×bC)) (qs:List (Nat×Value)) (H1:Nat→Option bh) (M:Nat→Prop) (x:τ.den) (cs:Array Value) (rd:List Nat) (ups:iP) (K:τ.den→List Nat→iP→Option α),
  Fz H H1→Mem c H1 w M ν→PR w M H1 ν ps qs→Rd w M τ cs.toList x→H1=c3 H ups→tQ τ H ps x rd ups K=some r→
  ∃x' AW nN M' cs',K x' AW nN=some r∧Tr c H1 w M ν (c3 H nN) w M' ν∧Fz H (c3 H nN)∧Rd w M' τ cs'.toList x'∧Instr.fill place cs qs=some cs'∧
   ∀m υ,Jp τ m=some υ→(ps.all λp=> !(Nat.beq p.1 m))=true→(cs'.toList.drop (rD τ m)).take υ.size=(cs.toList.drop (rD τ m)).take υ.size:=by
 intro ps
 induction ps with
 |nil=>
  intro qs H1 M x cs rd ups K hz hm hp hr hH h
  cases qs with
  |cons _ _=>exact hp.elim
  |nil=>exact⟨x,rd,ups,M,cs,h,hH▸Tr.refl hm,hH▸hz,hr,rfl,λ_ _ _ _=>rfl⟩
 |cons p ps ih=>
  intro qs H1 M x cs rd ups K hz hm hp hr hH h
  cases qs with
  |nil=>exact hp.elim
  |cons q qs=>
   obtain⟨h1,h2,h3⟩:=hp
   unfold tQ at h
   obtain⟨υ,y0,of,hf,h⟩:=s6 h
   obtain⟨y,rd1,PH,M1,h,ic,hV,B5,_⟩:=nP hz hm h2 h
   obtain⟨υ',y',o',k',AX,jI,G0⟩:=rZ h
   obtain⟨rfl,rfl⟩:=AX.eq
   obtain⟨rfl,rfl⟩:=hf.eq
   obtain⟨e1,K5⟩:=bB jI
   obtain⟨x',oL,_,kM⟩:=G0 _ _ K5
   have hlen:(q.2.cells).size=(vh τ p.1).size:=by rw[←bG];exact hV.cells.length
   have hb:=hf.bound
   have LY:=hr.length
   rw[bG]at LY
   obtain⟨x2,AW,nN,M',cs',hK,agQ,CY,eJ,SH,PI⟩:=ih qs (c3 H1 PH) M1 x' (e8 cs.toList (rD τ p.1) q.2.cells.toList).toArray (rd1++rd) (ups++PH) K B5 ic.mem (h3.bZ ic.bZ ic.goes)
    (kM w M1 _ _ (hr.bZ ic.bZ) hV.cells) (by rw[gm,hH]) oL
   refine⟨x2,AW,nN,M',cs',hK,ic.trans agQ,CY,eJ,?_,λm υ jI kW=> ?_⟩
   ·rw[HS (off:=rD τ p.1) (s:=(vh τ p.1).size) (by rw[←h1];exact G4 _ _ _ _ _ hf) hlen ω]
    exact SH
   ·rw[El,bP]at kW
    rw[PI m υ jI kW.2]
    obtain⟨y2,o2,hf2⟩:=s7 jI x
    obtain⟨e3,e4⟩:=hf2.eq
    subst e3 e4
    have jH:p.1≠m:=λe=>by have:=kW.1;rw[e,sY]at this;cases this
    have hap:=hf.apart hf2 jH
    have tI:=hf2.bound
    show((e8 cs.toList (rD τ p.1) q.2.cells.toList).drop _).take _=_
    rw[Jx (by rw[bG];omega) (by rw[bG,bG];omega)]
theorem fP.places: ∀(τ:Ty) (fs:Array Field) (n off:Nat),fP P τ (.inr (fs,n,off))→
  ∃ps,(fs.toList.drop n).mapM (λf=>(P.info? f.type).map λi=>(f.offset,i.size))=some ps∧ ∀(x:τ.den) m υ y o,CU τ x m υ y o→ps[m]? =some (off+o,υ.size)
 | .unit,fs,n,off,h=>by
  simp only[fP]at h
  refine⟨[],?_,λx m υ y o hf=>by cases hf⟩
  rw[ku (by rw[bG];omega)];rfl
 | .pair t b,fs,n,off,h=>by
  simp only[fP]at h
  obtain⟨f,hf,ho,ha,hb⟩:=h
  obtain⟨ps,JH,SH⟩:=fP.places b fs (n+1) (off+t.size) hb
  obtain⟨i,hi,hs,_⟩:=(show kA P t f.type from ha).base
  have eZ:n<fs.toList.length:=by rw[bG];exact(kt.1 hf).1
  have hfe:fs.toList[n]=f:=by rw[ze];exact(kt.1 hf).2
  refine⟨(off,t.size)::ps,?_,λx m υ y o AX=> ?_⟩
  ·rw[pM eZ,zn,JH,hfe,hi]
   simp[ho,hs]
  ·cases AX with
   |here=>simp
   |there _ h'=>simp[SH _ _ _ _ _ h',oI]
 | .int _,_,_,_,h| .bool,_,_,_,h| .str,_,_,_,h| .slice _,_,_,_,h| .arr _ _,_,_,_,h=>by simp[fP]at h
theorem kA.places{τ:Ty}{t:TypeId}(h:kA P τ t)(ha:τ.isAgg=true)(hn: ∀n e,τ≠ .arr n e):
  ∃fs ps,P.underlying t=some (.struct fs)∧fs.toList.mapM (λf=>(P.info? f.type).map λi=>(f.offset,i.size))=some ps∧ ∀(x:τ.den) m υ y o,CU τ x m υ y o→ps[m]? =some (o,υ.size):=by
 cases τ with
 |unit=>
  simp only[kA,fP]at h
  obtain⟨_,fs,hu,hs⟩:=h
  refine⟨fs,[],hu,?_,λx m υ y o hf=>by cases hf⟩
  have:fs.toList=[]:=tJ (by rw[bG];exact hs)
  rw[this];rfl
 |pair t' b=>
  simp only[kA,fP]at h
  obtain⟨_,fs,f,hu,hf,ho,ha',hb⟩:=h
  have hg:fP P (.pair t' b) (.inr (fs,0,0)):=by
   simp only[fP]
   exact⟨f,hf,ho,ha',by simpa using hb⟩
  obtain⟨ps,JH,SH⟩:=fP.places _ fs 0 0 hg
  exact⟨fs,ps,hu,JH,λx m υ y o AX=>by simpa using SH x m υ y o AX⟩
 |arr n e=>exact absurd rfl (hn n e)
 |int _=>simp[Ty.isAgg]at ha
 |bool=>simp[Ty.isAgg]at ha
 |str=>simp[Ty.isAgg]at ha
 |slice _=>simp[Ty.isAgg]at ha
theorem zK{ρ:Operand→Value}{t:TypeId}{ps:Array (Nat×Operand)}(ho:o.op= .build t ps){v:Value}(h:(Instr.build t (ps.map λ(i,x)=>(i,ρ x))).run P w= .ok v w):(execOp ρ o).run P w= .ok (.value v) w:=by
 simp[execOp,ho,h]
theorem zL{ρ:Operand→Value}{t:TypeId}{n:Nat}{ps:Array (Nat×Operand)}(ho:o.op= .buildSlice t n ps){v:Value}{w':World}(h:(Instr.buildSlice t n (ps.map λ(i,x)=>(i,ρ x))).run P w= .ok v w'):(execOp ρ o).run P w= .ok (.value v) w':=by
 simp[execOp,ho,h]
theorem VR.Rf{H:Nat→Option bh}{τ:Ty}(ha:τ.isAgg=true){cs:Array Value}{x:τ.den}(h:Rd w M τ cs.toList x):VR w M H ν (.val τ x) (.agg cs):=by
 simp only[VR,V];rw[aj ha];exact⟨cs,rfl,h⟩
theorem JI(hE:EnvTy P E)(hc:Core c σ a.tmps w M ν){t:TypeId}{ps:Array (Nat×Operand)}(ho:o.op= .build t ps){K:iU α}{n:Nat}{e:Ty}(ht:E.ty t=some (.arr n e))
  (h:vL e σ.H n (partsOf σ.ρ ps) (List.replicate n e.zero) [] [] (λl rd ups=>K (.val (.arr n e) l) rd ups)=some r) (hn:fX c σ a o w M ν K r next):o.wp P a w next Q:=by
 have hl:=hE.ty t _ ht
 obtain⟨e',hu,hle⟩:=hl.arr
 obtain⟨i,hi,hs,hz,_⟩:=hl.base
 obtain⟨ie,hie,hes,_⟩:=hle.base
 have YA:=Rd.arr.1 (Rd.zero w M (.arr n e))
 obtain⟨l',AW,nN,M',cs',hK,ic,CY,Jv,Re,eJ,hf⟩:=B4 (partsOf σ.ρ ps) (ps.toList.map λ(p:Nat×Operand)=>(p.1,a.eval p.2)) σ.H M (List.replicate n e.zero) (Ty.di (.arr n e)).toArray [] [] _ (.refl _) hc.mem (hc.pr ps.toList)
  (by rw[cP]) (by rw[iR];exact YA.2.1) YA.2.2 rfl h
 refine a8 (zK ho (run_build w t _ cs' ?_)) (hn _ _ _ _ _ _ _ hK ic (VR.Rf rfl (Rd.arr.2 ⟨Jv,by rw[bG];exact Re,eJ⟩)))
 unfold Program.built
 rw[hi,hu]
 simp only[hz,hie,hes,tU]
 exact hf
theorem C2(hE:EnvTy P E)(hc:Core c σ a.tmps w M ν){t:TypeId}{ps:Array (Nat×Operand)}(ho:o.op= .build t ps){K:iU α}{τ:Ty}(ht:E.ty t=some τ)(hna: ∀n e,τ≠ .arr n e)
  (h:cond τ.isAgg (tQ τ σ.H (partsOf σ.ρ ps) τ.zero [] [] (λl rd ups=>K (YS E (partsOf σ.ρ ps) τ l) rd ups)) none=some r) (hn:fX c σ a o w M ν K r next):o.wp P a w next Q:=by
 obtain⟨LS,h⟩:=cA h
 have hl:=hE.ty t _ ht
 obtain⟨fs,pl,hu,JH,G4⟩:=hl.places LS hna
 obtain⟨i,hi,hs,hz,_⟩:=hl.base
 obtain⟨l',AW,nN,M',cs',hK,ic,CY,eJ,hf,PI⟩:=JG (place:=(pl.toArray[·]?)) (λx n υ y o hf=>by simpa using G4 x n υ y o hf) (partsOf σ.ρ ps) (ps.toList.map λ(p:Nat×Operand)=>(p.1,a.eval p.2)) σ.H M τ.zero τ.di.toArray [] [] _ (.refl _) hc.mem (hc.pr ps.toList)
  (Rd.zero w M τ) rfl h
 have hvr:VR w M' (c3 σ.H nN) ν (YS E (partsOf σ.ρ ps) τ l') (.agg cs'):=by
  unfold YS
  split
  ·rename_i n e sF
   cases kW:(partsOf σ.ρ ps).all λp=> !(Nat.beq p.1 n)
   ·exact VR.Rf LS eJ
   ·have hq:=Q9 sF
    show VR w M' (c3 σ.H nN) ν (.Jq τ l' n) (.agg cs')
    have hv:=VR.Rf (H:=c3 σ.H nN) (ν:=ν) LS eJ
    simp only[VR]at hv ⊢
    refine⟨hv,cs',none,rfl,?_⟩
    have hfq:Jp τ n=some (.slice e):=by
     unfold gH at hq
     split at hq
     ·rename_i a ha
      rw[ha]
      have:=bz hq
      rw[this]
     ·cases hq
    have h2:=PI n _ hfq kW
    have h3:=HN hq
    simp only[cE,mT]at h3
    have h4:=ff (λl=>l[0]?) h2
    simp only[lE,lF,mT]at h4
    rw[aj (show 0<(Ty.slice e).size from Nat.one_pos),aj (show 0<(Ty.slice e).size from Nat.one_pos)]at h4
    rw[h4];exact h3
  ·exact VR.Rf LS eJ
 refine a8 (zK ho (run_build w t _ cs' ?_)) (hn _ _ _ _ _ _ _ hK ic hvr)
 unfold Program.built
 rw[hi,hu]
 have hzc:(cJ τ τ.di).cells=τ.di.toArray:=by apply jh;rw[gM]
 simp only[hz,JH,tU,hzc]
 exact hf
theorem G6(hE:EnvTy P E)(hc:Core c σ a.tmps w M ν){t:TypeId}{n:Nat}{ps:Array (Nat×Operand)}(ho:o.op= .buildSlice t n ps){K:iU α}{e:Ty}(ht:E.ty t=some (.slice e)){id:Nat}
  (h:cond (Nat.ble (n*(e.size+1)) 16777216) (qE σ.H id (.own e []) (vL e σ.H n (partsOf σ.ρ ps) (List.replicate n e.zero) [] [] λl rd ups=>K (.ref id) (id::rd) (ups++[(id,some (.own e l))]))) none=some r)
  (hn:fX c σ a o w M ν K r next):o.wp P a w next Q:=by
 obtain⟨hb,h⟩:=cA h
 obtain⟨bg,h⟩:=kU h
 have hb:=D7 hb
 rw[Nat.mul_add,Nat.mul_one]at hb
 obtain⟨e',hu,hle⟩:=(hE.ty t _ ht).slice
 obtain⟨ie,hie,hes,hz,_⟩:=hle.base
 obtain⟨l',AW,nN,M',cs',hK,ic,CY,Jv,Re,eJ,hf⟩:=B4 (partsOf σ.ρ ps) (ps.toList.map λ(p:Nat×Operand)=>(p.1,a.eval p.2)) σ.H M (List.replicate n e.zero) (madeCells (cJ e e.di).cells (n*e.size)) [] [] _ (.refl _) hc.mem (hc.pr ps.toList)
  (by rw[cP]) (size_madeCells _ _) (qJ.made w M e (aG _)) rfl h
 have agG:c3 σ.H nN id=none:=CY.none bg
 have vU:=ic.trans (Tr.row ic.mem agG e' (e:=e) (cs:=cs') (l:=l') (cap:=n) ω (by simp[maxLen];omega) Re eJ)
 have dD:(Instr.buildSlice t n (ps.map λ(i,x)=>(i,a.eval x))).run P w= .ok (.slice (some ⟨w.heap.size,0,none⟩) n n) (w.alloc (.cells cs' e')):=by
  by_cases h0:n*e.size=0
  ·rw[h0]at hf
   have hm0:madeCells (cJ e e.di).cells 0=(Array.range 0).map λi:Nat=>(#[]:Array Value)[i%0]! :=by simp[madeCells]
   rw[hm0]at hf
   rw[←tU]at hf
   simp[Instr.buildSlice,run_underlying hu,Go.sizeOf,typeInfo,hie,hes,h0,newRow]at hf ⊢
   simp[hf]
  ·refine run_buildSlice w t e' n _ cs' ie _ hu hie hz (by rw[hes];omega) (by rw[hes];exact h0) ?_
   rw[hes,tU]
   exact hf
 refine a8 (zL ho dD) (hn _ _ _ _ _ (λb=>M' b∨b=w.heap.size) (dg ν id (.slice (some ⟨w.heap.size,0,none⟩) l'.length n)) hK ?_ ?_)
 ·rw[gm];exact vU
 ·simp only[VR]
  exact⟨by rw[gm];show bW _ id _ id≠none;rw[ay];simp,by simp[dg,Jv]⟩
end VM
end
section
namespace VM
open Go
variable{P:Program}{E:Env}{o:Oper}{a:Act}{w:World}{M:Nat→Prop}{ν:Nat→Value}{σ:St}{c:Ctx}{α:Type}{r:α}{next:Act→World→Prop}{Q:Exit→Act→World→Prop}
def YB(o:Option Value)(d l:Int):Prop:=(o=none∧l=d)∨ ∃k,o=some (.int k l)
theorem qL(hc:Core c σ a.tmps w M ν){x:Option Operand}{d:Int}{k:Int→Option α}(h:yp (x.map σ.ρ) d k=some r): ∃l,k l=some r∧YB (x.map a.eval) d l:=by
 cases x with
 |none=>exact⟨d,h,.inl ⟨rfl,rfl⟩⟩
 |some x=>
  obtain⟨i,n,hx,h⟩:=mZ (h:vJ (σ.ρ x) (λ_ x=>k x)=some r)
  have hv:=hc.ev x
  rw[hx]at hv
  exact⟨n,h,.inr ⟨i,by rw[←hv.int];rfl⟩⟩
theorem uV{s:Bool}{len cap:Nat}{lo hi mx:Option Value}{l h m:Int}(xN:YB lo 0 l)(K6:YB hi len h)(K7:YB mx cap m)(hm:mx.isNone=true∨hi.isSome=true)
  (h0:0≤l) (h1:l≤h) (h2:h≤m) (h3:m≤cap):(Instr.sliceBounds s len cap lo hi mx).run P w= .ok (l.toNat,h.toNat,m.toNat) w:=by
 have hb: ∀(k:IntKind) (i:Int) (y:Nat) cd,0≤i→i≤y→(Instr.sliceBound (.int k i) y cd).run P w= .ok i.toNat w:=by
  intro k i y cd h1 h2
  simp[Instr.sliceBound,asIntOf,h1,h2]
 have jI:((m.toNat:Nat):Int)=m:=ω
 have hh':((h.toNat:Nat):Int)=h:=ω
 rcases K7 with⟨rfl,rfl⟩|⟨km,rfl⟩
 ·rcases K6 with⟨rfl,rfl⟩|⟨kh,rfl⟩
  ·rcases xN with⟨rfl,rfl⟩|⟨kl,rfl⟩
   ·simp[Instr.sliceBounds]
   ·simp[Instr.sliceBounds,hb kl l len _ h0 h1]
  ·rcases xN with⟨rfl,rfl⟩|⟨kl,rfl⟩
   ·simp[Instr.sliceBounds,hb kh h cap _ ω h2]
   ·simp[Instr.sliceBounds,hb kh h cap _ ω h2,hb kl l h.toNat _ h0 ω]
 ·rcases K6 with⟨rfl,rfl⟩|⟨kh,rfl⟩
  ·simp at hm
  ·rcases xN with⟨rfl,rfl⟩|⟨kl,rfl⟩
   ·simp[Instr.sliceBounds,hb km m cap _ ω h3,hb kh h m.toNat _ ω ω]
   ·simp[Instr.sliceBounds,hb km m cap _ ω h3,hb kh h m.toNat _ ω ω,hb kl l h.toNat _ h0 ω]
theorem G7{ρ:Operand→Value}{t:TypeId}{x:Operand}{lo hi mx:Option Operand}(ho:o.op= .slice t x lo hi mx){s:ByteArray}{l h:Int}(hu:P.underlying t=some .string)(hx:ρ x= .string s)
  (xN:YB (lo.map ρ) 0 l) (K6:YB (hi.map ρ) s.size h) (K7:mx.isNone=true) (h0:0≤l) (h1:l≤h) (h2:h≤s.size):(execOp ρ o).run P w= .ok (.value (.string (s.extract l.toNat h.toNat))) w:=by
 have hm:mx=none:=by simpa using K7
 subst hm
 have hb:=uV (P:=P) (w:=w) (s:=false) xN K6 (.inl ⟨rfl,rfl⟩) (.inl rfl) h0 h1 h2 (fE _)
 simp[execOp,ho,hx,Instr.sliceAt,Instr.slice,run_underlying hu,hb]
theorem tV{ρ:Operand→Value}{t e:TypeId}{x:Operand}{lo hi mx:Option Operand}(ho:o.op= .slice t x lo hi mx){τ:Ty}{ad:Option Addr}{len cap:Nat}{l h m:Int}(hu:P.underlying t=some (.slice e))(hle:kA P τ e)(hx:ρ x= .slice ad len cap)
  (xN:YB (lo.map ρ) 0 l) (K6:YB (hi.map ρ) len h) (K7:YB (mx.map ρ) cap m) (hm:(mx.map ρ).isNone=true∨(hi.map ρ).isSome=true) (h0:0≤l) (h1:l≤h) (h2:h≤m) (h3:m≤cap):
  (execOp ρ o).run P w= .ok (.value (.slice (if m.toNat=l.toNat then ad else ad.map (·.add (l.toNat*τ.size))) (h.toNat-l.toNat) (m.toNat-l.toNat))) w:=by
 have hb:=uV (P:=P) (w:=w) (s:=true) xN K6 K7 hm h0 h1 h2 h3
 simp[execOp,ho,hx,Instr.sliceAt,Instr.slice,run_underlying hu,hb,de hle]
theorem B6{x:Option Operand}(h:lI x=true)(a:Act): ∃k,x.map a.eval=some (.int k 0):=by
 unfold lI at h
 split at h
 ·rename_i k n
  have:n=0:=by simpa using h
  subst this
  exact⟨k,rfl⟩
 ·cases h
theorem Rd.cut{e:Ty}{ad:Option Addr}{len cap:Nat}{x:List e.den}(h:Rd w M (.slice e) [.slice ad len cap] x){l hh m:Int}(h0:0≤l)(h1:l≤hh)(h2:hh≤m)(hl:hh≤x.length):
  Rd w M (.slice e) [.slice (if m.toNat=l.toNat then ad else ad.map (·.add (l.toNat*e.size))) (hh.toNat-l.toNat) (m.toNat-l.toNat)] (List.drop l.toNat (List.take hh.toNat x)):=by
 simp only[Rd,fe,eP]at h ⊢
 obtain⟨a',m0,hv,hc,hr⟩:=h
 cases hv
 have hlen:List.length (List.drop l.toNat (List.take hh.toNat x))=hh.toNat-l.toNat:=by rw[dO,cc];omega
 refine⟨_,_,by rw[hlen],by rw[hlen];omega,λi hi=> ?_⟩
 rw[hlen]at hi
 obtain⟨b,off,ha,hb,hm,cs,pR,kM⟩:=hr (l.toNat+i) ω
 rw[ah ω]
 refine⟨b,off+l.toNat*e.size,by rw[ha];simp[Addr.add_lit],hb,hm,cs,?_,?_⟩
 ·rw[show off+l.toNat*e.size+i*e.size=off+(l.toNat+i)*e.size from by rw[eg];omega];exact pR
 ·simp only[D9,Ec,Ed]at kM ⊢
  exact kM
theorem VR.emp{H:Nat→Option bh}{v:Value}:VR w M H ν .emp v↔ ∃ad,v= .slice ad 0 0:=by simp[VR]
theorem Vf(hE:EnvTy P E)(hc:Core c σ a.tmps w M ν){t:TypeId}{x:Operand}{lo hi mx:Option Operand}(ho:o.op= .slice t x lo hi mx){K:iU α}{τ:Ty}(ht:E.ty t=some τ)
  (h:qG τ (lo.isNone&&lI hi&&lI mx) (σ.ρ x) (lo.map σ.ρ) (hi.map σ.ρ) (mx.map σ.ρ) σ.H K=some r) (hn:fX c σ a o w M ν K r next):o.wp P a w next Q:=by
 have zG:=hE.ty t τ ht
 have hv:=hc.ev x
 have Rg: ∀(e:Ty) (e':TypeId) (ad:Option Addr) (len cap:Nat),P.underlying t=some (.slice e')→kA P e e'→a.eval x= .slice ad len cap→(lo.isNone&&lI hi&&lI mx)=true→
   ∃ad',(execOp a.eval o).run P w= .ok (.value (.slice ad' 0 0)) w:=by
  intro e e' ad len cap hu hle hx hz
  simp only[bP]at hz
  obtain⟨⟨h1,h2⟩,h3⟩:=hz
  have h1:lo=none:=by simpa using h1
  subst h1
  obtain⟨k2,h2⟩:=B6 h2 a
  obtain⟨k3,h3⟩:=B6 h3 a
  have:=tV (P:=P) (w:=w) ho hu hle hx (l:=0) (h:=0) (m:=0) (.inl ⟨rfl,rfl⟩) (.inr ⟨k2,h2⟩) (.inr ⟨k3,h3⟩) (.inr (by rw[h2];rfl)) ω ω ω ω
  exact⟨_,this⟩
 unfold qG at h
 split at h
 ·rename_i s hx
  obtain⟨hm,h⟩:=cA h
  obtain⟨l,h,xN⟩:=qL hc h
  obtain⟨hh,h,K6⟩:=qL hc h
  obtain⟨hk,h⟩:=cA h
  rw[zx]at hk
  obtain⟨h0,h1,h2,h3⟩:=bz hk
  rw[hx]at hv
  exact a8 (G7 ho zG.str hv.str xN K6 (by simpa using hm) h0 h1 h2) (hn _ [] [] _ _ _ _ h (.refl hc.mem) (.mkStr _))
 ·rename_i e hx
  obtain⟨e',hu,hle⟩:=zG.slice
  rw[hx]at hv
  obtain⟨ad,hv⟩:=VR.emp.1 hv
  cases hz:(lo.isNone&&lI hi&&lI mx)
  ·rw[hz]at h
   replace h:cond (mx.map σ.ρ).isNone (yp (lo.map σ.ρ) 0 λl=>yp (hi.map σ.ρ) 0 λh=>cond (jS l h 0 0) (K .emp [] []) none) none=some r:=h
   obtain⟨hm,h⟩:=cA h
   obtain⟨l,h,xN⟩:=qL hc h
   obtain⟨hh,h,K6⟩:=qL hc h
   obtain⟨hk,hK⟩:=cA h
   rw[zx]at hk
   obtain⟨h0,h1,h2,h3⟩:=bz hk
   have jI:mx=none:=by simpa using hm
   subst jI
   have:=tV (P:=P) (w:=w) ho hu hle hv xN K6 (.inl ⟨rfl,rfl⟩) (.inl rfl) h0 h1 (m:=0) ω ω
   refine a8 this (hn _ [] [] _ _ _ _ hK (.refl hc.mem) (VR.emp.2 ?_))
   rw[show hh.toNat-l.toNat=0 from by omega,show(0:Int).toNat-l.toNat=0 from by omega]
   exact⟨_,rfl⟩
  ·rw[hz]at h
   obtain⟨ad',dD⟩:=Rg e e' ad 0 0 hu hle hv hz
   exact a8 dD (hn _ [] [] _ _ _ _ h (.refl hc.mem) (VR.emp.2 ⟨_,rfl⟩))
 ·rename_i e jH
  obtain⟨e',hu,hle⟩:=zG.slice
  cases hz:(lo.isNone&&lI hi&&lI mx)
  ·rw[hz]at h
   obtain⟨y,rd,ups,M',h,ic,hV,_⟩:=nP (.refl _) hc.mem hv h
   replace h:cond ((mx.map σ.ρ).isNone||(hi.map σ.ρ).isSome) (yp (lo.map σ.ρ) 0 λl=>yp (hi.map σ.ρ) (List.length y:Int) λh=>yp (mx.map σ.ρ) (List.length y:Int) λm=>
    cond (jS l h m (List.length y:Int)) (K (.val (.slice e) (List.drop l.toNat (List.take h.toNat y))) rd ups) none) none=some r:=h
   obtain⟨hm,h⟩:=cA h
   obtain⟨l,h,xN⟩:=qL hc h
   obtain⟨hh,h,K6⟩:=qL hc h
   obtain⟨m,h,K7⟩:=qL hc h
   obtain⟨hk,h⟩:=cA h
   rw[zx]at hk
   obtain⟨h0,h1,h2,h3⟩:=bz hk
   have hr:=V.slice.1 hV
   have eJ:=hr
   simp only[Rd,fe,eP]at eJ
   obtain⟨ad,cap,hx,alk,_⟩:=eJ
   rw[hx]at hr
   have jI:(mx.map a.eval).isNone=true∨(hi.map a.eval).isSome=true:=by
    simp only[mR,Option.isNone_map,Option.isSome_map]at hm ⊢;exact hm
   have agS: ∃m',YB (mx.map a.eval) cap m'∧hh≤m'∧m'≤cap:=by
    rcases K7 with⟨h9,_⟩|⟨k,h9⟩
    ·exact⟨cap,.inl ⟨h9,rfl⟩,ω,fE _⟩
    ·exact⟨m,.inr ⟨k,h9⟩,h2,ω⟩
   obtain⟨m',agS,h4,h5⟩:=agS
   have dD:=tV (P:=P) (w:=w) ho hu hle hx xN K6 agS jI h0 h1 h4 h5
   refine a8 dD (hn _ _ _ _ _ M' _ h ic ?_)
   simp only[VR]
   exact V.slice.2 (hr.cut h0 h1 h4 ω)
  ·rw[hz]at h
   obtain⟨y,rd,h,hS⟩:=B0 hc.mem hv h
   obtain⟨ad,cap,hx,_⟩:=hS
   obtain⟨ad',dD⟩:=Rg e e' ad _ cap hu hle hx hz
   exact a8 dD (hn _ _ [] _ _ _ _ h (.refl hc.mem) (VR.emp.2 ⟨_,rfl⟩))
 ·cases h
end VM
end
section
namespace VM
open Go
variable{P:Program}{E:Env}{o:Oper}{a:Act}{w:World}{M:Nat→Prop}{ν:Nat→Value}{σ:St}{c:Ctx}{α:Type}{r:α}{next:Act→World→Prop}{Q:Exit→Act→World→Prop}
theorem sa{t ty e:TypeId}{i:TypeInfo}(ht:P.underlying t=some (.slice e))(hi:P.info? e=some i)(base:Option Addr)(n cap:Nat)(h:n≤cap)(a':Option Addr)(cp:Nat):
  (Builtin.append_ #[t,t] ty #[.slice base n cap,.slice a' 0 cp]).run P w= .ok (.slice base n cap) w:=by
 cases a'<;>cases base<;>simp[Builtin.append_,run_underlying ht,Go.sizeOf,typeInfo,hi,Builtin.lenOf,h,Builtin.firstCells,loadCells,loadCellsFrom,storeCells]
theorem L9{t ty e te:TypeId}{i:TypeInfo}(ht:P.underlying t=some (.slice e))(hi:P.info? e=some i){b n cap m cp:Nat}{a':Addr}{news:List Value}{cs:Array Value}
  (hg:w.heap[b]? =some (.cells cs te (0,0))) (hs:cs.size=cap*i.size) (hl:news.length=m*i.size) (hn: ∀j u,news[j]? =some u→w.cell? (a'.add j)=some u) (h1: ∀u∈news,u.oneCell'=true) (hr:n+m≤cap):
  (Builtin.append_ #[t,t] ty #[.slice (some ⟨b,0,none⟩) n cap,.slice (some a') m cp]).run P w= .ok (.slice (some ⟨b,0,none⟩) (n+m) cap) (w.setRow b (e8 cs.toList (n*i.size) news).toArray):=by
 have hf:=run_firstCells_some (P:=P) w i.size m a' m cp news hl hn
 have hm:(n+m)*i.size≤cap*i.size:=lB _ hr
 rw[eg]at hm
 have GG:=run_storeCells_at (P:=P) b (n*i.size) te news 0 cs w hg ω h1
 simp only[mT]at GG
 simp[Builtin.append_,run_underlying ht,Go.sizeOf,typeInfo,hi,Builtin.lenOf,hr,hf,Addr.add_lit,GG,e8]
theorem gZ{args:Array Operand}{t:TypeId}{x y:Operand}{v:Value}{w':World}(ho:o.op= .call {callee:= .builtin .append,args,argTypes:= #[t,t]})(ha:args.toList=[x,y])
  (h:(Builtin.append_ #[t,t] o.type #[a.eval x,a.eval y]).run P w= .ok v w'):(execOp a.eval o).run P w= .ok (.value v) w':=by
 obtain⟨cs,hr⟩:=qI (P:=P) (ρ:=a.eval) ho (w:=w)
 rw[hr]
 have:args.map a.eval= #[a.eval x,a.eval y]:=by apply jh;simp[ha]
 rw[this]
 simp[builtin,h]
theorem EH{H:Nat→Option bh}(hm:Mem c H w M ν){id:Nat}(bg:H id=none){t ty:TypeId}{e':TypeId}{e:Ty}(hu:P.underlying t=some (.slice e'))(hle:kA P e e')
  {xs ys:List e.den} {olds news:List Value} {base:Option Addr} {cap cp:Nat} {a':Addr} (Vg:base=none→xs=[]∧cap=0)
  (xN:olds.length=xs.length*e.size) (hro:qJ w M e olds xs) (ho: ∀b,base=some b→ ∀j u,olds[j]? =some u→w.cell? (b.add j)=some u)
  (YC:news.length=ys.length*e.size) (hrn:qJ w M e news ys) (hn: ∀j u,news[j]? =some u→w.cell? (a'.add j)=some u)
  (hg:cap<xs.length+ys.length) (hs:xs.length+ys.length<zw):
  ∃v w' M' ν',(Builtin.append_ #[t,t] ty #[.slice base xs.length cap,.slice (some a') ys.length cp]).run P w= .ok v w'∧Tr c H w M ν (bW H id (some (.own e (xs++ys)))) w' M' ν'∧ν' id=v:=by
 obtain⟨i,hi,sP,hz,hby⟩:=hle.base
 have hzs:(cJ e e.di).cells.size=e.size:=by rw[←bG,gM,ov]
 have h63:xs.length+ys.length≤maxLen:=by simp only[zw,maxLen]at hs ⊢;omega
 have Ma:(xs.length+ys.length)*i.bytes≤140737488355328:=by
  have:(xs.length+ys.length)*i.bytes≤68719476736*2048:=vD (by simp only[zw]at hs;omega) hby
  omega
 have dD: ∃m0 rest,(Builtin.append_ #[t,t] ty #[.slice base xs.length cap,.slice (some a') ys.length cp]).run P w= .ok (.slice (some ⟨w.heap.size,0,none⟩) (xs.length+ys.length) m0) (w.drew.alloc (.cells (olds++news++rest).toArray e'))∧
   xs.length+ys.length≤m0∧m0≤maxLen∧rest.length=(m0-(xs.length+ys.length))*e.size:=by
  refine⟨grownCap w (xs.length+ys.length) cap e',(Builtin.zeroCells (cJ e e.di).cells (grownCap w (xs.length+ys.length) cap e'-(xs.length+ys.length))).toList,?_,grownCap_ge _ _ _ _,grownCap_le_maxLen _ _ _ _ h63,?_⟩
  ·cases base with
   |none=>
    obtain⟨rfl,rfl⟩:=Vg rfl
    have ho0:olds=[]:=tJ (by rw[xN];simp)
    subst ho0
    have:=run_append_nil (P:=P) w t ty e' i _ hu hi hz a' ys.length cp news (by rw[YC,sP]) hn (by simpa using hg) (by simp only[zw]at hs;omega) (by simp at Ma;omega)
    simp only[bS,gh,cI]
    rw[this]
    congr 2
    apply ff (λz=>Obj.cells z e' (0,0))
    apply jh;simp
   |some b=>
    have:=run_append_grow (P:=P) w t ty e' i _ hu hi hz b xs.length cap olds (by rw[xN,sP]) (ho b rfl) a' ys.length cp news (by rw[YC,sP]) hn hg (by simp only[zw]at hs;omega) (growslice_fits hg Ma)
    rw[this]
    congr 2
    apply ff (λz=>Obj.cells z e' (0,0))
    apply jh;simp
  ·rw[bG,size_zeroCells,hzs]
 obtain⟨m0,rest,dD,K5,hc2,alq⟩:=dD
 have hlen:(xs++ys).length=xs.length+ys.length:=aS
 have hd:=Tr.drew hm
 have hon:(olds++news).length=(xs++ys).length*e.size:=by rw[aS,xN,YC,hlen,eg]
 have PJ:=Tr.row hd.mem bg e' (e:=e) (cs:=(olds++news++rest).toArray) (l:=xs++ys) (cap:=m0) (by rw[hlen];exact K5) hc2
  (by rw[iR,aS,hon,alq,hlen,←eg];congr 1;omega)
  (qJ.more ((hro.append xN hrn).bZ hd.bZ) (by rw[hon];exact aG _))
 refine⟨_,_,_,_,dD,hd.trans PJ,?_⟩
 rw[←hlen];simp[dg]
theorem SL(hE:EnvTy P E)(hc:Core c σ a.tmps w M ν){args:Array Operand}{ts:Array TypeId}{t t':TypeId}{x y:Operand}(ho:o.op= .call {callee:= .builtin .append,args,argTypes:=ts})(ha:args.toList=[x,y])(hts:ts.toList=[t,t']){K:iU α}{e:Ty}
  (ht:E.ty t=some (.slice e)) {id:Nat} (h:cond (Nat.beq t t') (qE σ.H id (.own e []) (LJ id e (σ.ρ x) (σ.ρ y) σ.H K)) none=some r) (hn:fX c σ a o w M ν K r next):o.wp P a w next Q:=by
 obtain⟨htt,h1⟩:=cA h
 clear h
 have htt:=fT htt
 subst htt
 obtain⟨bg,h⟩:=kU h1
 clear h1
 have aqU:ts= #[t,t]:=by apply jh;simpa using hts
 subst aqU
 obtain⟨e',hu,hle⟩:=(hE.ty t _ ht).slice
 obtain⟨i,hi,sP,hz,hby⟩:=hle.base
 have JF:=hc.ev x
 unfold LJ at h
 obtain⟨ys,rd,h,hS⟩:=B0 hc.mem (hc.ev y) h
 have agV:(ys=[]∧ ∃a' cp,a.eval y= .slice a' 0 cp)∨(ys≠[]∧ ∃a' cp news,a.eval y= .slice (some a') ys.length cp∧news.length=ys.length*e.size∧(∀j u,news[j]? =some u→w.cell? (a'.add j)=some u)∧qJ w M e news ys∧ ∀u∈news,u.oneCell'=true):=by
  by_cases hy:ys=[]
  ·left
   obtain⟨a',cp,hv,_⟩:=hS
   exact⟨hy,a',cp,by rw[hv,hy];rfl⟩
  ·right
   obtain⟨b,off,cp,news,hv,hl,pR,kM,h1⟩:=hS.cells hy
   exact⟨hy,⟨b,off,none⟩,cp,news,hv,hl,λj u hj=>by rw[Addr.add_lit];exact pR j u hj,kM,h1⟩
 split at h
 ·
  rename_i hx
  rw[hx]at JF
  obtain⟨ad,JF⟩:=VR.emp.1 JF
  obtain⟨Rh,h⟩:=cA h
  rw[Es]at Rh
  have Rh:=bz Rh
  rcases agV with⟨rfl,a',cp,CZ⟩|⟨hy,a',cp,news,CZ,hl,pR,kM,h1⟩
  ·refine a8 (gZ ho ha (by rw[JF,CZ];exact sa hu hi ad 0 0 (aG _) a' cp)) (hn _ _ _ _ _ _ _ h (Tr.nothing hc.mem bg e ad) ?_)
   simp only[VR]
   exact⟨by show bW _ id _ id≠none;rw[ay];simp,by simp[dg]⟩
  ·have G8:0<ys.length:=rU.2 hy
   obtain⟨v,w',M',ν',dD,ic,hv⟩:=EH (P:=P) (ty:=o.type) hc.mem bg hu hle (xs:=[]) (ys:=ys) (olds:=[]) (news:=news) (base:=ad) (cap:=0) (cp:=cp) (a':=a') (λ_=>⟨rfl,rfl⟩) (by simp) (λi hi=>absurd hi (by simp)) (λ_ _ j u hj=>by simp at hj)
    hl kM pR (by simpa using G8) (by simpa using Rh)
   refine a8 (gZ ho ha (by rw[JF,CZ];exact dD)) (hn _ _ _ _ _ _ _ h ic ?_)
   simp only[VR]
   exact⟨by show bW _ id _ id≠none;rw[ay];simp,hv.symm⟩
 ·
  rename_i j hx
  rw[hx]at JF
  simp only[VR]at JF
  obtain⟨_,JF⟩:=JF
  split at h
  ·rename_i e1 l hj
   obtain⟨e2,h⟩:=bB h
   cases e2
   obtain⟨Rh,h⟩:=cA h
   rw[Es]at Rh
   have Rh:l.length+ys.length<zw:=bz Rh
   have jH:id≠j:=λe=>by rw[e,hj]at bg;cases bg
   have pd:bW σ.H j (some .gone) id=none:=by rw[az _ _ jH];exact bg
   have Pp:=Tr.gone hc.mem j
   have mA:=hc.mem.kP j _ hj
   simp only[ER]at mA
   rcases mA with⟨rfl,ad,hjv⟩|⟨b,cs,te,cap,hjv,hg,hM,UH,hl,GD,hs,hr⟩
   ·rw[hjv]at JF
    rcases agV with⟨rfl,a',cp,CZ⟩|⟨hy,a',cp,news,CZ,hl,pR,kM,h1⟩
    ·refine a8 (gZ ho ha (by rw[JF,CZ];exact sa hu hi ad 0 0 (aG _) a' cp)) (hn _ _ _ _ _ _ _ h (Pp.trans (Tr.nothing Pp.mem pd e ad)) ?_)
     simp only[VR]
     exact⟨by show bW _ id _ id≠none;rw[ay];simp,by simp[dg]⟩
    ·have G8:0<ys.length:=rU.2 hy
     obtain⟨v,w',M',ν',dD,ic,hv⟩:=EH (P:=P) (ty:=o.type) Pp.mem pd hu hle (xs:=[]) (ys:=ys) (olds:=[]) (news:=news) (base:=ad) (cap:=0) (cp:=cp) (a':=a') (λ_=>⟨rfl,rfl⟩) (by simp) (λi hi=>absurd hi (by simp)) (λ_ _ j u hj=>by simp at hj)
      hl kM pR (by simpa using G8) (by simpa using Rh)
     refine a8 (gZ ho ha (by rw[JF,CZ];exact dD)) (hn _ _ _ _ _ _ _ h (Pp.trans ic) ?_)
     simp only[VR]
     exact⟨by show bW _ id _ id≠none;rw[ay];simp,hv.symm⟩
   ·rw[hjv]at JF
    have LY:cs.toList.length=cap*e.size:=by rw[bG,hs]
    have GJ:l.length*e.size≤cap*e.size:=lB _ hl
    rcases agV with⟨rfl,a',cp,CZ⟩|⟨hy,a',cp,news,CZ,YC,pR,kM,h1⟩
    ·refine a8 (gZ ho ha (by rw[JF,CZ];exact sa hu hi _ _ cap hl a' cp)) (hn _ _ _ _ _ M (dg ν id (ν j)) h ?_ ?_)
     ·refine Tr.rename hc.mem hj bg (.inr rfl) ?_
      rw[ch]
      exact hc.mem.kP j _ hj
     ·simp only[VR]
      exact⟨by show bW _ id _ id≠none;rw[ay];simp,by simp[dg,hjv]⟩
    ·by_cases zM:l.length+ys.length≤cap
     ·have hmul:(l.length+ys.length)*e.size≤cap*e.size:=lB _ zM
      rw[eg]at hmul
      have dD:=L9 (P:=P) (ty:=o.type) hu hi (w:=w) (b:=b) (n:=l.length) (cap:=cap) (m:=ys.length) (cp:=cp) (a':=a') (news:=news) (cs:=cs) hg (by rw[hs,sP]) (by rw[YC,sP]) pR h1 zM
      rw[sP]at dD
      have YY:e8 cs.toList (l.length*e.size) news=(cs.toList.take (l.length*e.size)++news)++cs.toList.drop (l.length*e.size+news.length):=rfl
      have hold:qJ w M e (cs.toList.take (l.length*e.size)) l:=qJ.take hr (aG _)
      have htl:(cs.toList.take (l.length*e.size)).length=l.length*e.size:=by rw[cc];omega
      have afx:qJ w M e (e8 cs.toList (l.length*e.size) news) (l++ys):=by
       rw[YY]
       refine qJ.more (hold.append htl kM) ?_
       rw[aS,aS,htl,YC,eg];exact aG _
      have G9:(e8 cs.toList (l.length*e.size) news).length=cap*e.size:=by rw[gz ω];exact LY
      have Y7:Tr c σ.H w M ν (bW σ.H j (some (.own e l))) (w.setRow b (e8 cs.toList (l.length*e.size) news).toArray) M ν:=by
       refine Tr.write (e':= .own e l) hc.mem hj trivial trivial (.refl _) (by rw[hjv];simp[fH];omega) hg λPm hk A2=> ?_
       simp only[ER]
       refine .inr ⟨b,_,te,cap,hjv,setRow_heap w b cs _ te _ hg,A2,UH,hl,GD,by rw[iR];exact G9,λk G0=> ?_⟩
       have:=(afx k (by rw[aS];omega)).bZ hk
       rw[D2 G0]at this
       exact this
      rw[AZ hj]at Y7
      have vU:Tr c σ.H (w.setRow b (e8 cs.toList (l.length*e.size) news).toArray) M ν (bW (bW σ.H j (some .gone)) id (some (.own e (l++ys)))) (w.setRow b (e8 cs.toList (l.length*e.size) news).toArray) M (dg ν id (.slice (some ⟨b,0,none⟩) (l++ys).length cap)):=by
       refine Tr.rename Y7.mem hj bg (.inr (by rw[hjv];simp[fH])) ?_
       simp only[ER]
       refine .inr ⟨b,_,te,cap,rfl,setRow_heap w b cs _ te _ hg,hM,UH,by rw[aS];exact zM,GD,by rw[iR];exact G9,(afx.bZ Y7.bZ)⟩
      refine a8 (gZ ho ha (by rw[JF,CZ];exact dD)) (hn _ _ _ _ _ _ _ h (Y7.trans vU) ?_)
      simp only[VR]
      exact⟨by show bW _ id _ id≠none;rw[ay];simp,by simp[dg]⟩
     ·obtain⟨v,w',M',ν',dD,ic,hv⟩:=EH (P:=P) (ty:=o.type) Pp.mem pd hu hle (xs:=l) (ys:=ys) (olds:=cs.toList.take (l.length*e.size)) (news:=news) (base:=some ⟨b,0,none⟩) (cap:=cap) (cp:=cp) (a':=a') (λh=>by cases h)
       (by rw[cc];omega) (qJ.take hr (aG _)) (λb' eV k u hk=>by
        cases eV
        rw[Addr.add_lit,cell_of hg]
        rw[lE]at hk
        split at hk
        ·rw[←gL];simpa using hk
        ·cases hk)
       YC kM pR ω Rh
      refine a8 (gZ ho ha (by rw[JF,CZ];exact dD)) (hn _ _ _ _ _ _ _ h (Pp.trans ic) ?_)
      simp only[VR]
      exact⟨by show bW _ id _ id≠none;rw[ay];simp,hv.symm⟩
  ·cases h
 ·cases h
end VM
end
section
namespace VM
open Go
variable{P:Program}{E:Env}{o:Oper}{a:Act}{w:World}{M:Nat→Prop}{ν:Nat→Value}{σ:St}{c:Ctx}{α:Type}{r:α}{next:Act→World→Prop}{Q:Exit→Act→World→Prop}
def sQ:{m:AM}→{ms:List AM}→HP (m::ms)→m.den
 |_,[],x=>x
 |_,_::_,x=>x.1
def xO:{m:AM}→{ms:List AM}→HP (m::ms)→HP ms
 |_,[],_=>()
 |_,_::_,x=>x.2
def AM.iz:AM→Bool
 | .io _| .lo _=>true
 |_=>false
def AM.Y8:AM→Bool
 | .fn _ _| .jg _=>true
 |_=>false
def A1(w:World)(M:Nat→Prop):(m:AM)→m.den→Value→Prop
 | .v τ,x,v=>V w M τ v x
 | .own e,x,v=>ER w M v (.own e x)
 | .io τ,x,v=>ER w M v (.obj τ x)
 | .fn f τ,x,v=>VR w M (λ_=>none) (λ_=>undef) (.LD f (pG τ x)) v
 | .ptr τ,x,v=>ER w M v (.obj τ x)
 | .jg τ,x,v=>VR w M (λ_=>none) (λ_=>undef) (.qD τ x) v
 | .lo e,x,v=>ER w M v (.own e x)
def jy(w:World)(M:Nat→Prop):(ms:List AM)→HP ms→List Value→Prop
 |[],_,vs=>vs=[]
 |_::ms,x,vs=> ∃v K8,vs=v::K8∧A1 w M _ (sQ x) v∧jy w M ms (xO x) K8
def c9:AM→Value→List Nat
 | .own _,v| .io _,v| .ptr _,v| .lo _,v=>(fH v).toList
 |_,_=>[]
def dM:List AM→List Value→List Nat
 |m::ms,v::vs=>c9 m v++dM ms vs
 |_,_=>[]
def fg:List AM→List Value→List Value
 |m::ms,v::vs=>if m.iz then v::fg ms vs else fg ms vs
 |_,_=>[]
def m1:List AM→List AM
 | .io τ::ms=> .io τ::m1 ms
 | .lo e::ms=> .lo e::m1 ms
 |_::ms=>m1 ms
 |[]=>[]
def RR(w:World)(M:Nat→Prop):(ms:List AM)→HP ms→List Value→List Value→Prop
 |[],_,vs,ps=>vs=[]∧ps=[]
 |m::ms,x,vs,ps=>(∃p GK,m.iz=true∧ps=p::GK∧A1 w M m (sQ x) p∧RR w M ms (xO x) vs GK)∨
  (∃v K8,m.iz=false∧m.Y8=false∧vs=v::K8∧A1 w M m (sQ x) v∧RR w M ms (xO x) K8 ps)
def bF:List AM→List Value→List Value→List Nat
 |[],_,_=>[]
 |m::ms,vs,ps=>if m.iz then c9 m (ps.headD undef)++bF ms vs ps.tail else c9 m (vs.headD undef)++bF ms vs.tail ps
def Ty.flat:Ty→Bool
 | .slice _=>false
 | .pair a b=>a.flat&&b.flat
 | .arr _ e=>e.flat
 |_=>true
def AM.flat:AM→Bool
 | .v τ| .io τ| .own τ| .ptr τ| .lo τ=>τ.flat
 | .fn _ _| .jg _=>false
def vY(vs:List Value):Value:=if h:vs.length=1 then vs[0]else .tuple vs.toArray
structure Left(w:World)(M0:Nat→Prop)(hs:List Nat)(w':World)(M':Nat→Prop):Prop where
 sub: ∀b,M0 b→M' b
 Ev: ∀b,M' b→b<w'.heap.size
 less: ∀b,b<w.heap.size→M' b→M0 b∨b∈hs
 frame: ∀b,b<w.heap.size→b∉hs→w'.heap[b]? =w.heap[b]?
 size:w.heap.size≤w'.heap.size
 os:w'.os=w.os
 tape:w'.tape=w.tape
 output:w'.output=w.output
def Mb(P:Program)(f:FuncId)(args:Array Value)(w:World)(R:Value→World→Prop):Prop:=
 ∀(o:Oper) (a:Act) (next:Act→World→Prop) (Q:Exit→Act→World→Prop),(∀v w',R v w'→next (a.put o.dst v) w')→o.upon P a next Q ((callFunc f args).run P w)
theorem Mb.mono{f:FuncId}{args:Array Value}{R R':Value→World→Prop}(h:Mb P f args w R)(hr: ∀v w',R v w'→R' v w'):Mb P f args w R':=
 λo a next Q hn=>h o a next Q λv w' hv=>hn v w' (hr v w' hv)
theorem sG{f:FuncId}{fn:Func}{args:Array Value}{R:Value→World→Prop}(hf:P.funcs[f]? =some fn)(hn:(fn.name== "runtime.NumGoroutine")=false)(hb:fn.body.isNone=false)
  (h:Calls P f args w λe w'=> ∃v,e= .returned v∧R v w'):Mb P f args w R:=by
 intro o a next Q vZ
 have hn': ¬fn.name= "runtime.NumGoroutine" :=by simpa using hn
 have eV: ¬fn.body=none:=λe=>by rw[e]at hb;cases hb
 have:(callFunc f args).run P w= .ok (.enter f args) w:=by simp[callFunc,hf,hn',eV]
 rw[this,Oper.upon_enter]
 refine Calls.mono h ?_
 rintro e w' ⟨v,rfl,hR⟩
 exact vZ v w' hR
theorem Ha{f:FuncId}{args:Array Value}{R:Value→World→Prop}{v:Value}{w':World}(h:(callFunc f args).run P w= .ok (.value v) w')(hR:R v w'):Mb P f args w R:=by
 intro o a next Q vZ
 rw[h,Oper.upon_value]
 exact vZ v w' hR
structure iA(P:Program)(f:FuncId)(S:lO):Prop where
 quiet:S.quiet=true→S.res.all AM.flat=true
 ios:m1 S.args=m1 S.res
 call: ∀(M0:Nat→Prop) (w:World) (vs:List Value) (x:HP S.args) (y:HP S.res),(∀b,M0 b→b<w.heap.size)→
  jy w (λb=>M0 b∨b∈dM S.args vs) S.args x vs→(dM S.args vs).Nodup→(∀b∈dM S.args vs,¬M0 b)→S.run x=some y→
  Mb P f vs.toArray w λv w'=> ∃us M',v=vY us∧RR w' M' S.res y us (fg S.args vs)∧Left w M0 (dM S.args vs) w' M'∧
   (bF S.res us (fg S.args vs)).Nodup∧ ∀b∈bF S.res us (fg S.args vs),¬M0 b
theorem Rd.flat{w:World}{M M':Nat→Prop}: ∀{τ:Ty} {cs:List Value} {x:τ.den},τ.flat=true→Rd w M τ cs x→Rd w M' τ cs x
 | .int _,_,_,_,h| .bool,_,_,_,h| .str,_,_,_,h| .unit,_,_,_,h=>h
 | .slice _,_,_,hf,_=>by simp[Ty.flat]at hf
 | .pair a b,_,_,hf,h=>by
  simp only[Ty.flat,bP]at hf
  simp only[Rd]at h ⊢
  obtain⟨c1,c2,rfl,h1,h2⟩:=h
  exact⟨c1,c2,rfl,h1.flat hf.1,h2.flat hf.2⟩
 | .arr n e,_,x,hf,h=>by
  simp only[Ty.flat]at hf
  simp only[Rd]at h ⊢
  obtain⟨hn,Sy,hc,rfl,hr⟩:=h
  exact⟨hn,Sy,hc,rfl,λi hi mX=>(hr i hi mX).flat hf⟩
theorem A1.flat{w:World}{M M':Nat→Prop}(hM: ∀b,M b→M' b){m:AM}{x:m.den}{v:Value}(hf:m.flat=true)(h:A1 w M m x v):A1 w M' m x v:=by
 cases m with
 |v τ=>
  simp only[A1,V,AM.flat]at h hf ⊢
  split
  ·rename_i ha;rw[aj ha]at h;obtain⟨cs,h1,h⟩:=h;exact⟨cs,h1,h.flat hf⟩
  ·rename_i ha;rw[ah ha]at h;exact h.flat hf
 |own e=>
  simp only[A1,ER,AM.flat]at h hf ⊢
  rcases h with h|⟨b,cs,t,cap,h1,h2,h3,h4,h5,h6,h7,h8⟩
  ·exact .inl h
  ·exact .inr ⟨b,cs,t,cap,h1,h2,hM b h3,h4,h5,h6,h7,λi hi=>(h8 i hi).flat hf⟩
 |io τ=>
  simp only[A1,ER,AM.flat]at h hf ⊢
  obtain⟨b,cs,t,h1,h2,h3,h4⟩:=h
  exact⟨b,cs,t,h1,h2,hM b h3,h4.flat hf⟩
 |fn f τ=>simp[AM.flat]at hf
 |jg τ=>simp[AM.flat]at hf
 |lo e=>
  simp only[A1,ER,AM.flat]at h hf ⊢
  rcases h with h|⟨b,cs,t,cap,h1,h2,h3,h4,h5,h6,h7,h8⟩
  ·exact .inl h
  ·exact .inr ⟨b,cs,t,cap,h1,h2,hM b h3,h4,h5,h6,h7,λi hi=>(h8 i hi).flat hf⟩
 |ptr τ=>
  simp only[A1,ER,AM.flat]at h hf ⊢
  obtain⟨b,cs,t,h1,h2,h3,h4⟩:=h
  exact⟨b,cs,t,h1,h2,hM b h3,h4.flat hf⟩
theorem RR.flat{w:World}{M M':Nat→Prop}(hM: ∀b,M b→M' b): ∀{ms:List AM} {x:HP ms} {vs ps:List Value},ms.all AM.flat=true→RR w M ms x vs ps→RR w M' ms x vs ps
 |[],_,_,_,_,h=>h
 |m::ms,x,vs,ps,hf,h=>by
  simp only[El,bP]at hf
  simp only[RR]at h ⊢
  rcases h with⟨p,GK,h1,h2,h3,h4⟩|⟨v,K8,h1,h2,h3,h4,h5⟩
  ·exact .inl ⟨p,GK,h1,h2,h3.flat hM hf.1,RR.flat hM hf.2 h4⟩
  ·exact .inr ⟨v,K8,h1,h2,h3,h4.flat hM hf.1,RR.flat hM hf.2 h5⟩
theorem A1.wa{w w':World}{M M':Nat→Prop}(k:eY w M w' M'){m:AM}{x:m.den}{v:Value}(hm: ∀b∈c9 m v,w'.heap[b]? =w.heap[b]? ∧M' b)(h:A1 w M m x v):A1 w' M' m x v:=by
 cases m with
 |v τ=>exact V.bZ k h
 |own e=>
  simp only[A1]at h ⊢
  exact ER.bZ k (λ_ b hb=>hm b (by simp[c9,hb])) h
 |io τ=>
  simp only[A1]at h ⊢
  exact ER.bZ k (λ_ b hb=>hm b (by simp[c9,hb])) h
 |fn f τ=>exact VR.bZ k (.refl _ _) h
 |jg τ=>exact VR.bZ k (.refl _ _) h
 |lo e=>
  simp only[A1]at h ⊢
  exact ER.bZ k (λ_ b hb=>hm b (by simp[c9,hb])) h
 |ptr τ=>
  simp only[A1]at h ⊢
  exact ER.bZ k (λ_ b hb=>hm b (by simp[c9,hb])) h
theorem jy.wa{w w':World}{M M':Nat→Prop}(k:eY w M w' M'): ∀{ms:List AM} {x:HP ms} {vs:List Value},(∀b∈dM ms vs,w'.heap[b]? =w.heap[b]? ∧M' b)→jy w M ms x vs→jy w' M' ms x vs
 |[],_,_,_,h=>h
 |m::ms,x,vs,hm,h=>by
  simp only[jy]at h ⊢
  obtain⟨v,K8,rfl,h1,h2⟩:=h
  exact⟨v,K8,rfl,h1.wa k (λb hb=>hm b (by simp[dM,hb])),jy.wa k (λb hb=>hm b (by simp[dM,hb])) h2⟩
theorem RR.wa{w w':World}{M M':Nat→Prop}(k:eY w M w' M'): ∀{ms:List AM} {x:HP ms} {us ps:List Value},(∀b∈bF ms us ps,w'.heap[b]? =w.heap[b]? ∧M' b)→RR w M ms x us ps→RR w' M' ms x us ps
 |[],_,_,_,_,h=>h
 |m::ms,x,us,ps,hm,h=>by
  simp only[RR]at h ⊢
  rcases h with⟨p,GK,h1,rfl,h2,h3⟩|⟨v,JJ,h1,h2,rfl,h3,h4⟩
  ·simp only[bF,h1,gw,sT,sV,bb]at hm
   exact .inl ⟨p,GK,h1,rfl,h2.wa k (λb hb=>hm b (.inl hb)),RR.wa k (λb hb=>hm b (.inr hb)) h3⟩
  ·simp only[bF,h1,iQ,eQ,sT,sV,bb]at hm
   exact .inr ⟨v,JJ,h1,h2,rfl,h3.wa k (λb hb=>hm b (.inl hb)),RR.wa k (λb hb=>hm b (.inr hb)) h4⟩
theorem DG{H:Nat→Option bh}(hm:Mem c H w M ν){a:bC}{v:Value}(hv:VR w M H ν a v){τ:Ty}{k:τ.den→List Nat→iP→Option α}{r:α}(h:lN true a H τ k=some r):
  ∃y rd ups,k y rd ups=some r∧((ups=[]∧V w M τ v y)∨ ∃id e l,ups=[(id,some (.ot e l))]∧H id=some (.own e l)∧
   ∀M',(∀b,M' b↔(M b∧fH (ν id)≠some b))→V w M' τ v y):=by
 unfold lN at h
 split at h
 ·obtain⟨e,h⟩:=bB h
  subst e
  simp only[VR]at hv
  exact⟨_,[],[],h,.inl ⟨rfl,hv⟩⟩
 ·obtain⟨e,h⟩:=bB h
  subst e
  simp only[VR]at hv
  exact⟨_,[],[],h,.inl ⟨rfl,hv.1⟩⟩
 ·split at h
  ·rename_i e k' _
   simp only[VR]at hv
   obtain⟨a,rfl⟩:=hv
   refine⟨[],[],[],h,.inl ⟨rfl,V.slice.2 ?_⟩⟩
   simp only[Rd]
   exact⟨a,0,rfl,aG _,λi hi=>absurd hi (by simp)⟩
  ·cases h
 ·rename_i id
  simp only[VR]at hv
  obtain⟨_,rfl⟩:=hv
  split at h
  ·rename_i e l bg
   obtain⟨e',h⟩:=bB h
   subst e'
   refine⟨_,_,_,h,.inr ⟨id,e,l,rfl,bg,λM' hM'=> ?_⟩⟩
   obtain⟨M2,_,hV,JB⟩:=Tr.freeze hm bg
   have:M'=M2:=by funext b;exact propext ((hM' b).trans (JB b).symm)
   rw[this];exact hV
  ·rename_i e l bg
   obtain⟨e',h⟩:=bB h
   subst e'
   have:=hm.kP id _ bg
   simp only[ER]at this
   exact⟨_,_,_,h,.inl ⟨rfl,V.slice.2 this.1⟩⟩
  ·cases h
 ·cases h
theorem Vh{H:Nat→Option bh}(hm:Mem c H w M ν): ∀{a:Ty} {x:bC} {v:Value} {k:a.den→List Nat→iP→Option α} {r:α},VR w M H ν x v→BV x H a k=some r→
  ∃y rd ups,k y rd ups=some r∧(ups=[]→VR w M (λ_=>none) (λ_=>undef) (BW a y) v):=by
 intro a x v k r hv h
 unfold BV at h
 split at h
 ·rename_i a k
  split at h
  ·rename_i υ z
   obtain⟨e1,h⟩:=bB h
   subst e1
   refine⟨_,_,_,h,λ_=> ?_⟩
   simp only[BW,VR]at hv ⊢
   exact hv
  ·cases h
 ·rename_i k0 vp
  obtain⟨y,rd,ups,h,hy⟩:=DG hm hv h
  refine⟨y,rd,ups,h,λhu=> ?_⟩
  rcases hy with⟨_,hy⟩|⟨_,_,_,h3,_⟩
  ·have:BW _ y= .val _ y:=by
    unfold BW
    split
    ·exact(vp _ _ rfl HEq.rfl).elim
    ·rfl
   rw[this]
   simp only[VR];exact hy
  ·rw[hu]at h3;cases h3
theorem EI{H:Nat→Option bh}(hm:Mem c H w M ν): ∀{τ:Ty} {pP:List bC} {vs:List Value} {k:τ.den→List Nat→iP→Option α} {r:α},ji w M H ν pP vs→qF H τ pP k=some r→
  ∃x rd ups,k x rd ups=some r∧(ups=[]→ji w M (λ_=>none) (λ_=>undef) (pG τ x) vs)
 | .unit,[],[],k,r,_,h=>⟨(),[],[],h,λ_=>by simp[pG,ji]⟩
 | .pair a b,x::xs,v::vs,k,r,hv,h=>by
  simp only[ji]at hv
  unfold qF at h
  obtain⟨y,rd,ups,h,hy⟩:=Vh hm hv.1 h
  obtain⟨ys,AW,nN,h,hys⟩:=EI hm hv.2 h
  refine⟨(y,ys),_,_,h,λhu=> ?_⟩
  have h1:ups=[]:=(Lu.1 hu).1
  have h2:nN=[]:=(Lu.1 hu).2
  simp only[pG,ji]
  exact⟨hy h1,hys h2⟩
 | .unit,[],_::_,_,_,hv,_=>by simp[ji]at hv
 |_,_::_,[],_,_,hv,_=>by simp[ji]at hv
 | .unit,_::_,_,_,_,_,h=>by simp[qF]at h
 | .pair _ _,[],_,_,_,_,h=>by simp[qF]at h
 | .int _,_,_,_,_,_,h| .bool,_,_,_,_,_,h| .str,_,_,_,_,_,h| .slice _,_,_,_,_,_,h| .arr _ _,_,_,_,_,_,h=>by simp[qF]at h
end VM
end
section
namespace VM
open Go
variable{P:Program}{E:Env}{o:Oper}{a:Act}{w:World}{M:Nat→Prop}{ν:Nat→Value}{σ:St}{c:Ctx}{α:Type}{r:α}{next:Act→World→Prop}{Q:Exit→Act→World→Prop}
def keys{β:Type}(l:List (Nat×β)):List Nat:=l.map (·.1)
theorem kX{i:Nat}: ∀{ups:iP} {H:Nat→Option bh},i∉keys ups→c3 H ups i=H i
 |[],_,_=>rfl
 |u::r,H,h=>by
  simp only[keys,bU,aX,not_or]at h
  show c3 (bW H u.1 u.2) r i=_
  rw[kX h.2,az _ _ h.1]
theorem zN(u:Nat×Option bh)(b:iP)(hb:u.1∉keys b): ∀(a:iP) (H:Nat→Option bh),c3 H (a++u::b)=bW (c3 H (a++b)) u.1 u.2
 |[],H=>by
  show c3 (bW H u.1 u.2) b=bW (c3 H b) u.1 u.2
  induction b generalizing H with
  |nil=>rfl
  |cons v b ih=>
   simp only[keys,bU,aX,not_or]at hb
   show c3 (bW (bW H u.1 u.2) v.1 v.2) b=bW (c3 (bW H v.1 v.2) b) u.1 u.2
   rw[←ih hb.2]
   congr 1
   funext i
   by_cases h1:i=v.1
   ·subst h1;rw[ay,az _ _ (eE hb.1),ay]
   ·by_cases h2:i=u.1
    ·subst h2;rw[az _ _ h1,ay,ay]
    ·rw[az _ _ h1,az _ _ h2,az _ _ h2,az _ _ h1]
 |v::a,H=>zN u b hb a (bW H v.1 v.2)
def IoE(H:Nat→Option bh)(q:Nat×AM):Prop:=(∃(τ:Ty) (x:τ.den),q.2= .io τ∧H q.1=some (.obj τ x))∨ ∃(e:Ty) (l:List e.den),q.2= .lo e∧H q.1=some (.own e l)
theorem IoE.some{H:Nat→Option bh}{q:Nat×AM}(h:IoE H q):H q.1≠none:=by
 rcases h with⟨_,x,_,h⟩|⟨e,l,_,h⟩<;>rw[h]<;>simp
structure jz(c:Ctx)(w:World)(M:Nat→Prop)(ν:Nat→Value)(H0 H1 Hq:Nat→Option bh)(M1:Nat→Prop)(uo uf:iP)(io:List (Nat×AM))(hs:List Nat):Prop where
 mem:Mem c H1 w M1 ν
 Mc:Mem c Hq w M ν
 bZ:eY w M w M1
 ext: ∀i,i∉keys io→c3 H0 (uo++uf) i=H1 i
 Vi: ∀i,i∉keys io→c3 H0 uo i=Hq i
 SM: ∀q∈io,H1 q.1=some .gone∧Hq q.1=some .gone∧IoE H0 q
 ion:(keys io).Nodup
 ks: ∀i∈keys (uo++uf),∀e l,H1 i≠some (.own e l)
 ksn: ∀i∈keys (uo++uf),i∉keys io∧ ∃e l,H0 i=some (.own e l)
 fz:Fz Hq H1
 uov: ∀u∈uo,u.2=some .gone
 ufv: ∀u∈uf,∃e l,u.2=some (.ot e l)∧H0 u.1=some (.own e l)
 nd:hs.Nodup
 hM: ∀b∈hs,M1 b
 Md: ∀b∈hs,c.B≤b∨c.may b
 none: ∀b∈hs,∀i e,Hq i=some e→e.mut→fH (ν i)≠some b
 iob: ∀b∈hs,c.M0 b→ ∃q∈io,fH (ν q.1)=some b
 same: ∀i,i∉keys (uo++uf)→i∉keys io→H1 i=H0 i
theorem jz.start{H:Nat→Option bh}(hm:Mem c H w M ν):jz c w M ν H H H M [] [] [] []:=
 ⟨hm,hm,.refl w M,λ_ _=>rfl,λ_ _=>rfl,λq hq=>by simp at hq,by simp[keys],λi hi=>by simp[keys]at hi,λi hi=>by simp[keys]at hi,.refl H,λu hu=>by simp at hu,λu hu=>by simp at hu,by simp,λb hb=>by simp at hb,λb hb=>by simp at hb,λb hb=>by simp at hb,λb hb=>by simp at hb,λ_ _ _=>rfl⟩
theorem Fz.Y9{H H1:Nat→Option bh}(h:Fz H H1){i:Nat}{e:Ty}{l:List e.den}(hi:H1 i=some (.own e l)):H i=some (.own e l):=by
 rcases h i with h'|⟨e',l',_,h'⟩
 ·rw[←h',hi]
 ·rw[hi]at h';cases h'
theorem Fz.alv{H H1:Nat→Option bh}(h:Fz H H1){i:Nat}{e:Ty}{l:e.den}(hi:H1 i=some (.obj e l)):H i=some (.obj e l):=by
 rcases h i with h'|⟨e',l',_,h'⟩
 ·rw[←h',hi]
 ·rw[hi]at h';cases h'
theorem Fz.mut{H H1:Nat→Option bh}(h:Fz H H1){i:Nat}{e:bh}(hi:H1 i=some e)(hm:e.mut):H i=some e:=by
 cases e with
 |obj=>exact h.alv hi
 |ga=>
  rcases h i with h'|⟨e',l',_,h'⟩
  ·rw[←h',hi]
  ·rw[hi]at h';cases h'
 |own=>exact h.Y9 hi
 |ot=>simp[bh.mut]at hm
 |gone=>simp[bh.mut]at hm
theorem jz.freeze{H0 H1 Hq:Nat→Option bh}{M1:Nat→Prop}{uo uf:iP}{io:List (Nat×AM)}{hs:List Nat}(h:jz c w M ν H0 H1 Hq M1 uo uf io hs){id:Nat}{e:Ty}{l:List e.den}(bg:H1 id=some (.own e l)):
  ∃M2,jz c w M ν H0 (bW H1 id (some (.ot e l))) Hq M2 uo ((id,some (.ot e l))::uf) io hs∧eY w M1 w M2∧(∀b,M2 b↔(M1 b∧fH (ν id)≠some b)):=by
 obtain⟨M2,ic,_,JB⟩:=Tr.freeze h.mem bg
 have uW:id∉keys io:=λhk=>by
  obtain⟨q,hq,rfl⟩:=cC.1 hk
  have:=(h.SM q hq).1
  rw[bg]at this;cases this
 have UJ:id∉keys (uo++uf):=λhk=>h.ks id hk e l bg
 have agY:id∉keys uf:=λhk=>UJ (by simp only[keys,cW,bb];exact .inr hk)
 have h0:H0 id=some (.own e l):=by rw[←h.same id UJ uW];exact bg
 have hq:Hq id=some (.own e l):=h.fz.Y9 bg
 have kV: ∀i,i∈keys (uo++(id,some (bh.ot e l))::uf)↔i=id∨i∈keys (uo++uf):=by
  intro i
  simp only[keys,cW,bU,bb,aX]
  constructor
  ·rintro(h|h|h)
   ·exact .inr (.inl h)
   ·exact .inl h
   ·exact .inr (.inr h)
  ·rintro(h|h|h)
   ·exact .inr (.inl h)
   ·exact .inl h
   ·exact .inr (.inr h)
 refine⟨M2,⟨ic.mem,h.Mc,h.bZ.trans ic.bZ,λi hi=> ?_,h.Vi,λq nB=> ?_,h.ion,λi hi e' l'=> ?_,λi hi=> ?_,λi=> ?_,h.uov,λu hu=> ?_,h.nd,λb hb=> ?_,h.Md,h.none,h.iob,λi hi mX=> ?_⟩,ic.bZ,JB⟩
 ·rw[zN _ _ agY]
  by_cases bV:i=id
  ·subst bV;rw[ay,ay]
  ·rw[az _ _ bV,az _ _ bV];exact h.ext i hi
 ·obtain⟨h1,h2,h3⟩:=h.SM q nB
  have jH:q.1≠id:=λe=>uW (e▸eO nB)
  exact⟨by rw[az _ _ jH];exact h1,h2,h3⟩
 ·by_cases bV:i=id
  ·subst bV;rw[ay];intro h';cases h'
  ·rw[az _ _ bV]
   exact h.ks i (((kV i).1 hi).resolve_left bV) e' l'
 ·rcases(kV i).1 hi with rfl|hi
  ·exact⟨uW,e,l,h0⟩
  ·exact h.ksn i hi
 ·by_cases bV:i=id
  ·subst bV;exact .inr ⟨e,l,hq,ay _ _ _⟩
  ·rw[az _ _ bV];exact h.fz i
 ·rcases aX.1 hu with rfl|hu
  ·exact⟨e,l,rfl,h0⟩
  ·exact h.ufv u hu
 ·exact(JB b).2 ⟨h.hM b hb,λeV=>h.none b hb id _ hq trivial eV⟩
 ·have jH:i≠id:=λe=>hi ((kV i).2 (.inl e))
  rw[az _ _ jH]
  exact h.same i (λh'=>hi ((kV i).2 (.inr h'))) mX
theorem jz.hand{H0 H1 Hq:Nat→Option bh}{M1:Nat→Prop}{uo uf:iP}{io:List (Nat×AM)}{hs:List Nat}(h:jz c w M ν H0 H1 Hq M1 uo uf io hs){id:Nat}{e:Ty}{l:List e.den}(bg:H1 id=some (.own e l)):
  jz c w M ν H0 (bW H1 id (some .gone)) (bW Hq id (some .gone)) M1 ((id,some .gone)::uo) uf io (hs++(fH (ν id)).toList):=by
 have uW:id∉keys io:=λhk=>by
  obtain⟨q,hq,rfl⟩:=cC.1 hk
  have:=(h.SM q hq).1
  rw[bg]at this;cases this
 have UJ:id∉keys (uo++uf):=λhk=>h.ks id hk e l bg
 have agY:id∉keys uo:=λhk=>UJ (by simp only[keys,cW,bb];exact .inl hk)
 have h0:H0 id=some (.own e l):=by rw[←h.same id UJ uW];exact bg
 have hq:Hq id=some (.own e l):=h.fz.Y9 bg
 have kV: ∀i,i∈keys ((id,some bh.gone)::uo++uf)↔i=id∨i∈keys (uo++uf):=by
  intro i
  simp only[keys,cW,bU,lG,bb,aX]
 have zH: ∀b,fH (ν id)=some b→b∉hs:=λb hb eV=>h.none b eV id _ hq trivial hb
 refine⟨(Tr.gone h.mem id).mem,(Tr.gone h.Mc id).mem,h.bZ,λi hi=> ?_,λi hi=> ?_,λq nB=> ?_,h.ion,λi hi e' l'=> ?_,λi hi=> ?_,λi=> ?_,λu hu=> ?_,h.ufv,?_,λb hb=> ?_,λb hb=> ?_,λb hb i e' hi hm=> ?_,λb hb YD=> ?_,λi hi mX=> ?_⟩
 ·have:=zN (id,some .gone) (uo++uf) UJ [] H0
  simp only[cI]at this
  rw[lG,this]
  by_cases bV:i=id
  ·subst bV;rw[ay,ay]
  ·rw[az _ _ bV,az _ _ bV];exact h.ext i hi
 ·have:=zN (id,some .gone) uo agY [] H0
  simp only[cI]at this
  rw[this]
  by_cases bV:i=id
  ·subst bV;rw[ay,ay]
  ·rw[az _ _ bV,az _ _ bV];exact h.Vi i hi
 ·obtain⟨h1,h2,h3⟩:=h.SM q nB
  have jH:q.1≠id:=λe=>uW (e▸eO nB)
  exact⟨by rw[az _ _ jH];exact h1,by rw[az _ _ jH];exact h2,h3⟩
 ·by_cases bV:i=id
  ·subst bV;rw[ay];intro h';cases h'
  ·rw[az _ _ bV]
   exact h.ks i (((kV i).1 hi).resolve_left bV) e' l'
 ·rcases(kV i).1 hi with rfl|hi
  ·exact⟨uW,e,l,h0⟩
  ·exact h.ksn i hi
 ·by_cases bV:i=id
  ·subst bV;left;rw[ay,ay]
  ·rw[az _ _ bV,az _ _ bV];exact h.fz i
 ·rcases aX.1 hu with rfl|hu
  ·rfl
  ·exact h.uov u hu
 ·refine pN.2 ⟨h.nd,?_,λx hx y hy=> ?_⟩
  ·cases fH (ν id)<;>simp
  ·rw[fc]at hy
   intro YE;subst YE
   exact zH x hy hx
 ·rcases bb.1 hb with hb|hb
  ·exact h.hM b hb
  ·rw[fc]at hb
   exact(h.mem.kP id _ bg).xK trivial hb
 ·rcases bb.1 hb with hb|hb
  ·exact h.Md b hb
  ·rw[fc]at hb
   exact h.mem.new id _ b bg trivial hb
 ·by_cases bV:i=id
  ·subst bV;rw[ay]at hi;cases hi;simp[bh.mut]at hm
  ·rw[az _ _ bV]at hi
   rcases bb.1 hb with hb|hb
   ·exact h.none b hb i e' hi hm
   ·rw[fc]at hb
    intro eV
    exact h.Mc.zB i id e' _ b bV hi hm hq trivial eV hb
 ·rcases bb.1 hb with hb|hb
  ·exact h.iob b hb YD
  ·rw[fc]at hb
   exact absurd YD (h.mem.yq id e l b bg hb)
 ·have jH:i≠id:=λe=>hi ((kV i).2 (.inl e))
  rw[az _ _ jH]
  exact h.same i (λh'=>hi ((kV i).2 (.inr h'))) mX
theorem jz.agZ{H0 H1 Hq:Nat→Option bh}{M1:Nat→Prop}{uo uf:iP}{io:List (Nat×AM)}{hs:List Nat}(h:jz c w M ν H0 H1 Hq M1 uo uf io hs){id:Nat}{τ:Ty}{x:τ.den}(bg:H1 id=some (.obj τ x)):
  jz c w M ν H0 (bW H1 id (some .gone)) (bW Hq id (some .gone)) M1 uo uf (io++[(id,.io τ)]) (hs++(fH (ν id)).toList):=by
 have uW:id∉keys io:=λhk=>by
  obtain⟨q,hq,rfl⟩:=cC.1 hk
  have:=(h.SM q hq).1
  rw[bg]at this;cases this
 have hq:Hq id=some (.obj τ x):=h.fz.alv bg
 have UJ:id∉keys (uo++uf):=λhk=>by
  have h1:=h.ext id uW
  obtain⟨_,e,l,h0⟩:=h.ksn id hk
  have key: ∀(ups:iP) (H:Nat→Option bh),(∀u∈ups,u.2=some .gone∨ ∃e l,u.2=some (.ot e l))→id∈keys ups→c3 H ups id=some .gone∨ ∃e l,c3 H ups id=some (.ot e l):=by
   intro ups
   induction ups with
   |nil=>intro H _ hk;simp[keys]at hk
   |cons u ups ih=>
    intro H hv hk
    by_cases YF:id∈keys ups
    ·exact ih _ (λv U9=>hv v (a6 _ U9)) YF
    ·show c3 (bW H u.1 u.2) ups id=_∨ ∃e l,c3 (bW H u.1 u.2) ups id=_
     rw[kX YF]
     have hui:id=u.1:=by
      simp only[keys,bU,aX]at hk YF
      exact hk.resolve_right YF
     rw[hui,ay]
     exact hv u bn
  have:=key (uo++uf) H0 (λu hu=>by
   rcases bb.1 hu with hu|hu
   ·exact .inl (h.uov u hu)
   ·obtain⟨e,l,h',_⟩:=h.ufv u hu;exact .inr ⟨e,l,h'⟩) hk
  rw[h1,bg]at this
  rcases this with h'|⟨_,_,h'⟩<;>cases h'
 have h0:H0 id=some (.obj τ x):=by rw[←h.same id UJ uW];exact bg
 have kV: ∀i,i∈keys (io++[(id,.io τ)])↔i∈keys io∨i=id:=by
  intro i
  simp only[keys,cW,bU,iT,bb,aX,List.not_mem_nil,or_false]
 have zH: ∀b,fH (ν id)=some b→b∉hs:=λb hb eV=>h.none b eV id _ hq trivial hb
 refine⟨(Tr.gone h.mem id).mem,(Tr.gone h.Mc id).mem,h.bZ,λi hi=> ?_,λi hi=> ?_,λq nB=> ?_,?_,λi hi e' l'=> ?_,λi hi=> ?_,λi=> ?_,h.uov,h.ufv,?_,λb hb=> ?_,λb hb=> ?_,λb hb i e' hi hm=> ?_,λb hb YD=> ?_,λi hi mX=> ?_⟩
 ·rw[az _ _ (λe=>hi ((kV i).2 (.inr e)))];exact h.ext i (λh'=>hi ((kV i).2 (.inl h')))
 ·rw[az _ _ (λe=>hi ((kV i).2 (.inr e)))];exact h.Vi i (λh'=>hi ((kV i).2 (.inl h')))
 ·rcases bb.1 nB with nB|nB
  ·obtain⟨h1,h2,h3⟩:=h.SM q nB
   have jH:q.1≠id:=λe=>uW (e▸eO nB)
   exact⟨by rw[az _ _ jH];exact h1,by rw[az _ _ jH];exact h2,h3⟩
  ·rw[bT]at nB;subst nB
   exact⟨ay _ _ _,ay _ _ _,.inl ⟨τ,x,rfl,h0⟩⟩
 ·simp only[keys,cW,bU,iT]
  refine pN.2 ⟨h.ion,by simp,λx hx y hy=> ?_⟩
  rw[bT]at hy;subst hy
  intro e;exact uW (e▸hx)
 ·by_cases bV:i=id
  ·subst bV;rw[ay];intro h';cases h'
  ·rw[az _ _ bV];exact h.ks i hi e' l'
 ·obtain⟨h1,h2⟩:=h.ksn i hi
  exact⟨λh'=>((kV i).1 h').elim h1 (λe=>UJ (e▸hi)),h2⟩
 ·by_cases bV:i=id
  ·subst bV;left;rw[ay,ay]
  ·rw[az _ _ bV,az _ _ bV];exact h.fz i
 ·refine pN.2 ⟨h.nd,?_,λx hx y hy=> ?_⟩
  ·cases fH (ν id)<;>simp
  ·rw[fc]at hy
   intro YE;subst YE
   exact zH x hy hx
 ·rcases bb.1 hb with hb|hb
  ·exact h.hM b hb
  ·rw[fc]at hb
   exact(h.mem.kP id _ bg).xK trivial hb
 ·rcases bb.1 hb with hb|hb
  ·exact h.Md b hb
  ·rw[fc]at hb
   exact h.mem.new id _ b bg trivial hb
 ·by_cases bV:i=id
  ·subst bV;rw[ay]at hi;cases hi;simp[bh.mut]at hm
  ·rw[az _ _ bV]at hi
   rcases bb.1 hb with hb|hb
   ·exact h.none b hb i e' hi hm
   ·rw[fc]at hb
    intro eV
    exact h.Mc.zB i id e' _ b bV hi hm hq trivial eV hb
 ·rcases bb.1 hb with hb|hb
  ·obtain⟨q,hq1,Yz⟩:=h.iob b hb YD
   exact⟨q,cS _ hq1,Yz⟩
  ·rw[fc]at hb
   exact⟨(id,.io τ),by simp,hb⟩
 ·have jH:i≠id:=λe=>mX ((kV i).2 (.inr e))
  rw[az _ _ jH]
  exact h.same i hi (λh'=>mX ((kV i).2 (.inl h')))
theorem jz.afy{H0 H1 Hq:Nat→Option bh}{M1:Nat→Prop}{uo uf:iP}{io:List (Nat×AM)}{hs:List Nat}(h:jz c w M ν H0 H1 Hq M1 uo uf io hs){id:Nat}{e:Ty}{l:List e.den}(bg:H1 id=some (.own e l)):
  jz c w M ν H0 (bW H1 id (some .gone)) (bW Hq id (some .gone)) M1 uo uf (io++[(id,.lo e)]) (hs++(fH (ν id)).toList):=by
 have uW:id∉keys io:=λhk=>by
  obtain⟨q,hq,rfl⟩:=cC.1 hk
  have:=(h.SM q hq).1
  rw[bg]at this;cases this
 have hq:Hq id=some (.own e l):=h.fz.Y9 bg
 have UJ:id∉keys (uo++uf):=λhk=>h.ks id hk e l bg
 have h0:H0 id=some (.own e l):=by rw[←h.same id UJ uW];exact bg
 have kV: ∀i,i∈keys (io++[(id,.lo e)])↔i∈keys io∨i=id:=by
  intro i
  simp only[keys,cW,bU,iT,bb,aX,List.not_mem_nil,or_false]
 have zH: ∀b,fH (ν id)=some b→b∉hs:=λb hb eV=>h.none b eV id _ hq trivial hb
 refine⟨(Tr.gone h.mem id).mem,(Tr.gone h.Mc id).mem,h.bZ,λi hi=> ?_,λi hi=> ?_,λq nB=> ?_,?_,λi hi e' l'=> ?_,λi hi=> ?_,λi=> ?_,h.uov,h.ufv,?_,λb hb=> ?_,λb hb=> ?_,λb hb i e' hi hm=> ?_,λb hb YD=> ?_,λi hi mX=> ?_⟩
 ·rw[az _ _ (λe=>hi ((kV i).2 (.inr e)))];exact h.ext i (λh'=>hi ((kV i).2 (.inl h')))
 ·rw[az _ _ (λe=>hi ((kV i).2 (.inr e)))];exact h.Vi i (λh'=>hi ((kV i).2 (.inl h')))
 ·rcases bb.1 nB with nB|nB
  ·obtain⟨h1,h2,h3⟩:=h.SM q nB
   have jH:q.1≠id:=λe=>uW (e▸eO nB)
   exact⟨by rw[az _ _ jH];exact h1,by rw[az _ _ jH];exact h2,h3⟩
  ·rw[bT]at nB;subst nB
   exact⟨ay _ _ _,ay _ _ _,.inr ⟨e,l,rfl,h0⟩⟩
 ·simp only[keys,cW,bU,iT]
  refine pN.2 ⟨h.ion,by simp,λx hx y hy=> ?_⟩
  rw[bT]at hy;subst hy
  intro e;exact uW (e▸hx)
 ·by_cases bV:i=id
  ·subst bV;rw[ay];intro h';cases h'
  ·rw[az _ _ bV];exact h.ks i hi e' l'
 ·obtain⟨h1,h2⟩:=h.ksn i hi
  exact⟨λh'=>((kV i).1 h').elim h1 (λe=>UJ (e▸hi)),h2⟩
 ·by_cases bV:i=id
  ·subst bV;left;rw[ay,ay]
  ·rw[az _ _ bV,az _ _ bV];exact h.fz i
 ·refine pN.2 ⟨h.nd,?_,λx hx y hy=> ?_⟩
  ·cases fH (ν id)<;>simp
  ·rw[fc]at hy
   intro YE;subst YE
   exact zH x hy hx
 ·rcases bb.1 hb with hb|hb
  ·exact h.hM b hb
  ·rw[fc]at hb
   exact(h.mem.kP id _ bg).xK trivial hb
 ·rcases bb.1 hb with hb|hb
  ·exact h.Md b hb
  ·rw[fc]at hb
   exact h.mem.new id _ b bg trivial hb
 ·by_cases bV:i=id
  ·subst bV;rw[ay]at hi;cases hi;simp[bh.mut]at hm
  ·rw[az _ _ bV]at hi
   rcases bb.1 hb with hb|hb
   ·exact h.none b hb i e' hi hm
   ·rw[fc]at hb
    intro eV
    exact h.Mc.zB i id e' _ b bV hi hm hq trivial eV hb
 ·rcases bb.1 hb with hb|hb
  ·obtain⟨q,hq1,Yz⟩:=h.iob b hb YD
   exact⟨q,cS _ hq1,Yz⟩
  ·rw[fc]at hb
   exact⟨(id,.lo e),by simp,hb⟩
 ·have jH:i≠id:=λe=>mX ((kV i).2 (.inr e))
  rw[az _ _ jH]
  exact h.same i hi (λh'=>mX ((kV i).2 (.inl h')))
end VM
end
section
namespace VM
open Go
variable{P:Program}{E:Env}{o:Oper}{a:Act}{w:World}{M:Nat→Prop}{ν:Nat→Value}{σ:St}{c:Ctx}{α:Type}{r:α}{next:Act→World→Prop}{Q:Exit→Act→World→Prop}
theorem sE.Za{H:Nat→Option bh}{id:Nat}{e e':bh}(bg:H id=some e)(hl:e.kT e'):sE H ν (bW H id (some e')) ν:=
 ⟨λi e1 hi=>by
  by_cases bV:i=id
  ·subst bV;rw[bg]at hi;cases hi;exact⟨e',ay _ _ _,hl⟩
  ·exact⟨e1,by rw[az _ _ bV];exact hi,.refl e1⟩,λ_ _=>rfl⟩
theorem bh.kD(e:bh):e.kT .gone:=by cases e<;>simp[bh.kT]
theorem VR.alx{H H':Nat→Option bh}{ν':Nat→Value}{a:Ty}{x:a.den}{v:Value}(h:VR w M H ν (BW a x) v):VR w M H' ν' (BW a x) v:=by
 unfold BW at h ⊢
 split at h
 ·simp only[VR]at h ⊢;exact h
 ·simp only[VR]at h ⊢;exact h
theorem ji.free{H H':Nat→Option bh}{ν':Nat→Value}: ∀{τ:Ty} {x:τ.den} {vs:List Value},ji w M H ν (pG τ x) vs→ji w M H' ν' (pG τ x) vs
 | .pair a b,x,v::vs,h=>by
  simp only[pG,ji]at h ⊢
  exact⟨VR.alx h.1,ji.free h.2⟩
 | .pair a b,x,[],h=>by simp[pG,ji]at h
 | .int _,_,[],_| .bool,_,[],_| .str,_,[],_| .slice _,_,[],_| .unit,_,[],_| .arr _ _,_,[],_=>by simp[pG,ji]
 | .int _,_,_::_,h| .bool,_,_::_,h| .str,_,_::_,h| .slice _,_,_::_,h| .unit,_,_::_,h| .arr _ _,_,_::_,h=>by simp[pG,ji]at h
theorem B7{H0 H1 Hq:Nat→Option bh}{M1:Nat→Prop}{uo uf:iP}{io:List (Nat×AM)}{hs:List Nat}(h:jz c w M ν H0 H1 Hq M1 uo uf io hs){m:AM}{x:bC}{v:Value}(hv:VR w M1 H1 ν x v)
  {k:m.den→(Nat→Option bh)→List Nat→iP→iP→List (Nat×AM)→Option α} (hk:nJ m x H1 k=some r):
  ∃y H2 rd K2 K3 GB UK M2,k y H2 rd K2 K3 GB=some r∧jz c w M ν H0 H2 UK M2 (K2++uo) (K3++uf) (io++GB) (hs++c9 m v)∧eY w M1 w M2∧sE H1 ν H2 ν∧A1 w M2 m y v∧
   GB.map (λq=>ν q.1)=(if m.iz then [v]else [])∧GB.map (·.2)=m1 [m]:=by
 unfold nJ at hk
 split at hk
 ·
  rename_i τ k
  obtain⟨y,rd,ups,hk,hy⟩:=DG h.mem hv hk
  rcases hy with⟨rfl,hV⟩|⟨id,e,l,rfl,bg,hV⟩
  ·exact⟨y,H1,rd,[],[],[],Hq,M1,hk,by simpa [c9]using h,.refl w M1,.refl H1 ν,hV,rfl,rfl⟩
  ·obtain⟨M2,hA,hK,JB⟩:=h.freeze bg
   exact⟨y,_,rd,[],_,[],Hq,M2,hk,by simpa [c9]using hA,hK,.Za bg ⟨rfl,rfl⟩,hV M2 JB,rfl,rfl⟩
 ·
  rename_i e k
  split at hk
  ·obtain⟨ad,hv⟩:=VR.emp.1 hv
   subst hv
   have hb:fH (.slice ad 0 0)=none:=by cases ad<;>simp[fH]
   exact⟨[],H1,[],[],[],[],Hq,M1,hk,by simpa [c9,hb]using h,.refl w M1,.refl H1 ν,by simp only[A1,ER];exact .inl ⟨trivial,ad,rfl⟩,rfl,rfl⟩
  ·rename_i id
   split at hk
   ·rename_i e' l bg
    obtain⟨e1,hk⟩:=bB hk
    cases e1
    simp only[VR]at hv
    obtain⟨_,rfl⟩:=hv
    refine⟨_,_,_,_,_,_,_,M1,hk,by simpa [c9]using h.hand bg,.refl w M1,.Za bg (bh.kD _),?_,rfl,rfl⟩
    have:=h.mem.kP id _ bg
    exact this
   ·cases hk
  ·cases hk
 ·
  rename_i τ k
  split at hk
  ·rename_i id
   split at hk
   ·rename_i υ z bg
    obtain⟨e1,hk⟩:=bB hk
    subst e1
    simp only[VR]at hv
    obtain⟨e,he,nA⟩:=hv
    rw[bg]at he;cases he
    simp only[AR]at nA
    obtain⟨_,b,hb,hv⟩:=nA
    have Vj:v=ν id:=by rw[hv,hb];rfl
    subst Vj
    refine⟨_,_,_,_,_,_,_,M1,hk,by simpa [c9]using h.agZ bg,.refl w M1,.Za bg (bh.kD _),?_,rfl,rfl⟩
    have:=h.mem.kP id _ bg
    exact this
   ·cases hk
  ·cases hk
 ·
  rename_i f τ k
  split at hk
  ·rename_i f' cs
   obtain⟨hf,hk1⟩:=cA hk
   clear hk
   have hf:=fT hf
   subst hf
   have hk:=hk1
   clear hk1
   simp only[VR]at hv
   obtain⟨us,rfl,Y0⟩:=hv
   obtain⟨y,rd,ups,hk,hy⟩:=EI h.mem Y0 hk
   split at hk
   ·exact⟨y,H1,rd,[],[],[],Hq,M1,hk,by simpa [c9]using h,.refl w M1,.refl H1 ν,by simp only[A1,VR];exact⟨us,rfl,hy rfl⟩,rfl,rfl⟩
   ·cases hk
  ·cases hk
 ·cases hk
 ·
  rename_i τ k
  split at hk
  ·rename_i υ z
   obtain⟨e1,hk⟩:=bB hk
   subst e1
   exact⟨_,H1,_,[],[],[],Hq,M1,hk,by simpa [c9]using h,.refl w M1,.refl H1 ν,by simp only[A1,VR]at hv ⊢;exact hv,rfl,rfl⟩
  ·cases hk
 ·
  rename_i e k
  split at hk
  ·rename_i id
   split at hk
   ·rename_i e' l bg
    obtain⟨e1,hk⟩:=bB hk
    cases e1
    simp only[VR]at hv
    obtain⟨_,rfl⟩:=hv
    refine⟨_,_,_,_,_,_,_,M1,hk,by simpa [c9]using h.afy bg,.refl w M1,.Za bg (bh.kD _),?_,rfl,rfl⟩
    have:=h.mem.kP id _ bg
    exact this
   ·cases hk
  ·cases hk
theorem B8{H0:Nat→Option bh}: ∀{ms:List AM} {pP:List bC} {vs:List Value} {H1 Hq:Nat→Option bh} {M1:Nat→Prop} {rd:List Nat} {uo uf:iP} {io:List (Nat×AM)} {hs:List Nat} {K:HP ms→List Nat→iP→iP→List (Nat×AM)→Option α},
  jz c w M ν H0 H1 Hq M1 uo uf io hs→ji w M1 H1 ν pP vs→s0 ms pP H1 rd uo uf io K=some r→
  ∃x AW K2 K3 GB H2 UK M2,K x AW K2 K3 GB=some r∧jz c w M ν H0 H2 UK M2 K2 K3 GB (hs++dM ms vs)∧eY w M1 w M2∧jy w M2 ms x vs∧
   GB.map (λq=>ν q.1)=io.map (λq=>ν q.1)++fg ms vs∧GB.map (·.2)=io.map (·.2)++m1 ms
 |[],[],[],H1,Hq,M1,rd,uo,uf,io,hs,K,h,_,hk=>
  ⟨(),rd,uo,uf,io,H1,Hq,M1,hk,by simpa [dM]using h,.refl w M1,rfl,by simp[fg],by simp[m1]⟩
 |[m],[x],[v],H1,Hq,M1,rd,uo,uf,io,hs,K,h,hv,hk=>by
  simp only[ji,eP]at hv
  obtain⟨y,H2,rd1,uo1,uf1,io1,UK,M2,hk,hA,hK,hG,hy,Zb,UL⟩:=B7 h hv (hk:nJ m x H1 _=some r)
  refine⟨y,_,_,_,_,H2,UK,M2,hk,by simpa [dM]using hA,hK,⟨v,[],rfl,hy,rfl⟩,?_,?_⟩
  ·rw[cW,Zb];cases uW:m.iz<;>simp[fg,uW]
  ·rw[cW,UL]
 |m::n::ms,x::xs,v::vs,H1,Hq,M1,rd,uo,uf,io,hs,K,h,hv,hk=>by
  simp only[ji]at hv
  obtain⟨y,H2,rd1,uo1,uf1,io1,UK,M2,hk,hA,hK,hG,hy,Zb,UL⟩:=B7 h hv.1 (hk:nJ m x H1 _=some r)
  obtain⟨ys,AW,K2,K3,GB,H3,Hq3,M3,hk,hA',hK',hys,hi3,hi4⟩:=B8 (ms:=n::ms) hA (ji.bZ hK hG hv.2) hk
  refine⟨(y,ys),_,_,_,_,H3,Hq3,M3,hk,by simpa [dM,br]using hA',hK.trans hK',⟨v,vs,rfl,?_,hys⟩,?_,?_⟩
  ·refine A1.wa hK' (λb hb=>⟨rfl,hA'.hM b ?_⟩) hy
   exact cS _ (dy _ hb)
  ·rw[hi3,cW,Zb,br]
   congr 1
   cases uW:m.iz<;>simp[fg,uW]
  ·rw[hi4,cW,UL,br]
   congr 1
   cases m<;>simp[m1]
 |[],_::_,_,_,_,_,_,_,_,_,_,_,_,_,hk=>by simp[s0]at hk
 |[_],[],_,_,_,_,_,_,_,_,_,_,_,_,hk=>by simp[s0]at hk
 |[_],_::_::_,_,_,_,_,_,_,_,_,_,_,_,_,hk=>by simp[s0]at hk
 |_::_::_,[],_,_,_,_,_,_,_,_,_,_,_,_,hk=>by simp[s0]at hk
 |_,_::_,[],_,_,_,_,_,_,_,_,_,_,hv,_=>by simp[ji]at hv
 |[],[],_::_,_,_,_,_,_,_,_,_,_,_,hv,_=>by simp[ji]at hv
 |[_],[_],_::_::_,_,_,_,_,_,_,_,_,_,_,hv,_=>by simp[ji]at hv
end VM
end
