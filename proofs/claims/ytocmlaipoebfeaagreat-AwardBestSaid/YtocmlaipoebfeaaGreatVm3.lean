/- A part of the proof of AwardBest of layer 25: a machine that reads a function of the program as an equation between values. -/
import Derived.Test.YtocmlaipoebfeaaGreatVm2
import Derived.Great.FillDense
set_option linter.all false
section
namespace VM
open Go
variable{P:Program}{E:Env}{o:Oper}{a:Act}{w:World}{M:Nat→Prop}{ν:Nat→Value}{σ:St}{c:Ctx}{α:Type}{r:α}{next:Act→World→Prop}{Q:Exit→Act→World→Prop}
theorem LS(off:Nat)(new:Array Value)(cs:Array Value)(h:off+new.size≤cs.size):
  (new.zipIdx.foldl (fun cs (x:Value×Nat)=>cs.setIfInBounds (off+x.2) x.1) cs)=(c5 cs.toList off new.toList).toArray:=by
 have h1:new.zipIdx.foldl (fun cs (x:Value×Nat)=>cs.setIfInBounds (off+x.2) x.1) cs=(new.toList.zipIdx 0).foldl (fun cs (x:Value×Nat)=>cs.setIfInBounds (off+x.2) x.1) cs:=by
  rw[←Array.foldl_toList,Array.toList_zipIdx]
 rw[h1]
 obtain⟨hs,hk⟩:=Great.foldl_set off new.toList 0 cs
 apply Array.ext_getElem?
 intro k
 rw[hk k,←Array.getElem?_toList (xs:=cs)]
 have hl:new.toList.length=new.size:=Array.length_toList
 have hc:cs.toList.length=cs.size:=Array.length_toList
 unfold c5
 rw[List.getElem?_toArray]
 by_cases h2:k<off
 ·rw[if_neg (by omega),List.append_assoc,List.getElem?_append_left (by rw[List.length_take];omega),List.getElem?_take_of_lt h2]
 ·by_cases h3:k<off+new.size
  ·rw[if_pos (by omega),List.getElem?_append_left (by rw[List.length_append,List.length_take];omega),List.getElem?_append_right (by rw[List.length_take];omega),List.length_take]
   congr 1
   omega
  ·rw[if_neg (by omega),List.getElem?_append_right (by rw[List.length_append,List.length_take];omega),List.length_append,List.length_take,List.getElem?_drop]
   congr 1
   omega
theorem Ac{place:Nat→Option (Nat×Nat)}{cs:Array Value}{i:Nat}{v:Value}{rest:List (Nat×Value)}{off s:Nat}(hp:place i=some (off,s))(hs:v.cells.size=s)(h:off+s≤cs.size):
  Instr.fill place cs ((i,v)::rest)=Instr.fill place (c5 cs.toList off v.cells.toList).toArray rest:=by
 have h1: ¬(decide (v.cells.size≠s)||decide (off+v.cells.size>cs.size))=true:=by simp[hs];omega
 conv=>lhs;unfold Instr.fill
 rw[hp]
 simp only
 rw[if_neg h1]
 congr 1
 exact LS off v.cells cs (by omega)
theorem oG(a:Act)(ps:Array (Nat×Operand)):(ps.map fun(i,x)=>(i,a.eval x)).toList=ps.toList.map fun p=>(p.1,a.eval p.2):=by
 rw[Array.toList_map]
def PR(w:World)(M:Nat→Prop)(H:Nat→Option aR)(ν:Nat→Value):List (Nat×aW)→List (Nat×Value)→Prop
 |[],[]=>True
 |p::ps,q::qs=>p.1=q.1∧VR w M H ν p.2 q.2∧PR w M H ν ps qs
 |_,_=>False
theorem PR.br{w':World}{M':Nat→Prop}{H H':Nat→Option aR}{ν':Nat→Value}(k:c4 w M w' M')(g:nP H ν H' ν'): ∀{ps:List (Nat×aW)} {qs:List (Nat×Value)},PR w M H ν ps qs→PR w' M' H' ν' ps qs
 |[],[],_=>trivial
 |_::_,_::_,h=>⟨h.1,h.2.1.br k g,PR.br k g h.2.2⟩
 |[],_::_,h=>h.elim
 |_::_,[],h=>h.elim
theorem Core.pr(hc:Core c σ a.tmps w M ν): ∀ps:List (Nat×Operand),PR w M σ.H ν (ps.map fun p=>(p.1,σ.ρ p.2)) (ps.map fun p=>(p.1,a.eval p.2))
 |[]=>trivial
 |p::ps=>⟨rfl,hc.ev p.2,hc.pr ps⟩
theorem vo{e:Ty}{n:Nat}{H:Nat→Option aR}: ∀(ps:List (Nat×aW)) (qs:List (Nat×Value)) (H1:Nat→Option aR) (M:Nat→Prop) (l:List e.den) (cs:Array Value) (rd:List Nat) (ups:e9) (K:List e.den→List Nat→e9→Option α),
  Fz H H1→Mem c H1 w M ν→PR w M H1 ν ps qs→l.length=n→cs.size=n*e.size→lY w M e cs.toList l→H1=bP H ups→pX e H n ps l rd ups K=some r→
  ∃l' uw ju M' cs',K l' uw ju=some r∧Tr c H1 w M ν (bP H ju) w M' ν∧Fz H (bP H ju)∧l'.length=n∧cs'.size=n*e.size∧lY w M' e cs'.toList l'∧
   Instr.fill (fun i=>some (i*e.size,e.size)) cs qs=some cs':=by
 intro ps
 induction ps with
 |nil=>
  intro qs H1 M l cs rd ups K hz hm hp hl hs hr hH h
  cases qs with
  |cons _ _=>exact hp.elim
  |nil=>exact⟨l,rd,ups,M,cs,h,hH▸Tr.refl hm,hH▸hz,hl,hs,hr,rfl⟩
 |cons p ps ih=>
  intro qs H1 M l cs rd ups K hz hm hp hl hs hr hH h
  cases qs with
  |nil=>exact hp.elim
  |cons q qs=>
   obtain⟨h1,h2,h3⟩:=hp
   unfold pX at h
   obtain⟨hb,h⟩:=bz h
   have dF:p.1<n:=by simpa [Nat.blt_eq]using hb
   obtain⟨y,WL,GI,M1,h,eD,hV,wX,_⟩:=jw hz hm h2 h
   have hlen:(q.2.cells).size=e.size:=by rw[←Array.length_toList];exact hV.cells.length
   have hmul:=cH (s:=e.size) dF
   have rr:=lY.set (hr.br eD.br) (by rw[hl,Array.length_toList,hs];exact Nat.le_refl _) (i:=p.1) (by omega) hV.cells
   obtain⟨l',uw,ju,M',cs',hK,WM,zo,CF,Iw,dA,hf⟩:=ih qs (bP H1 GI) M1 (l.set p.1 y) (c5 cs.toList (p.1*e.size) q.2.cells.toList).toArray (WL++rd) (ups++GI) K wX eD.mem (h3.br eD.br eD.goes)
    (by rw[List.length_set];exact hl) (by rw[List.size_toArray,dR (by rw[Array.length_toList,Array.length_toList];omega),Array.length_toList,hs]) rr (by rw[dN,hH]) h
   refine⟨l',uw,ju,M',cs',hK,eD.trans WM,zo,CF,Iw,dA,?_⟩
   rw[Ac (off:=p.1*e.size) (s:=e.size) (by rw[h1]) hlen (by omega)]
   exact hf
theorem Bv{τ:Ty}{H:Nat→Option aR}{place:Nat→Option (Nat×Nat)}(WN: ∀(x:τ.den) n υ y o,wg τ x n υ y o→place n=some (o,υ.size)):
  ∀(ps:List (Nat×aW)) (qs:List (Nat×Value)) (H1:Nat→Option aR) (M:Nat→Prop) (x:τ.den) (cs:Array Value) (rd:List Nat) (ups:e9) (K:τ.den→List Nat→e9→Option α),
  Fz H H1→Mem c H1 w M ν→PR w M H1 ν ps qs→Rd w M τ cs.toList x→H1=bP H ups→oC τ H ps x rd ups K=some r→
  ∃x' uw ju M' cs',K x' uw ju=some r∧Tr c H1 w M ν (bP H ju) w M' ν∧Fz H (bP H ju)∧Rd w M' τ cs'.toList x'∧Instr.fill place cs qs=some cs'∧
   ∀m υ,Be τ m=some υ→(ps.all fun p=> !(Nat.beq p.1 m))=true→(cs'.toList.drop (mV τ m)).take υ.size=(cs.toList.drop (mV τ m)).take υ.size:=by
 intro ps
 induction ps with
 |nil=>
  intro qs H1 M x cs rd ups K hz hm hp hr hH h
  cases qs with
  |cons _ _=>exact hp.elim
  |nil=>exact⟨x,rd,ups,M,cs,h,hH▸Tr.refl hm,hH▸hz,hr,rfl,fun _ _ _ _=>rfl⟩
 |cons p ps ih=>
  intro qs H1 M x cs rd ups K hz hm hp hr hH h
  cases qs with
  |nil=>exact hp.elim
  |cons q qs=>
   obtain⟨h1,h2,h3⟩:=hp
   unfold oC at h
   obtain⟨υ,y0,of,hf,h⟩:=n8 h
   obtain⟨y,WL,GI,M1,h,eD,hV,wX,_⟩:=jw hz hm h2 h
   obtain⟨υ',y',o',k',wh,gk,zA⟩:=ni h
   obtain⟨rfl,rfl⟩:=wh.eq
   obtain⟨rfl,rfl⟩:=hf.eq
   obtain⟨e1,Df⟩:=aY gk
   obtain⟨x',og,_,gB⟩:=zA _ _ Df
   have hlen:(q.2.cells).size=(pP τ p.1).size:=by rw[←Array.length_toList];exact hV.cells.length
   have hb:=hf.bound
   have C8:=hr.length
   rw[Array.length_toList]at C8
   obtain⟨x2,uw,ju,M',cs',hK,WM,zo,dA,LJ,GJ⟩:=ih qs (bP H1 GI) M1 x' (c5 cs.toList (mV τ p.1) q.2.cells.toList).toArray (WL++rd) (ups++GI) K wX eD.mem (h3.br eD.br eD.goes)
    (gB w M1 _ _ (hr.br eD.br) hV.cells) (by rw[dN,hH]) og
   refine⟨x2,uw,ju,M',cs',hK,eD.trans WM,zo,dA,?_,fun m υ gk kb=> ?_⟩
   ·rw[Ac (off:=mV τ p.1) (s:=(pP τ p.1).size) (by rw[←h1];exact WN _ _ _ _ _ hf) hlen (by omega)]
    exact LJ
   ·rw[List.all_cons,Bool.and_eq_true]at kb
    rw[GJ m υ gk kb.2]
    obtain⟨y2,o2,hf2⟩:=n9 gk x
    obtain⟨e3,e4⟩:=hf2.eq
    subst e3 e4
    have gG:p.1≠m:=fun e=>by have:=kb.1;rw[e,Nat.beq_refl]at this;cases this
    have hap:=hf.apart hf2 gG
    have rX:=hf2.bound
    show((c5 cs.toList (mV τ p.1) q.2.cells.toList).drop _).take _=_
    rw[Bm (by rw[Array.length_toList];omega) (by rw[Array.length_toList,Array.length_toList];omega)]
theorem dq.places: ∀(τ:Ty) (fs:Array Field) (n off:Nat),dq P τ (.inr (fs,n,off))→
  ∃ps,(fs.toList.drop n).mapM (fun f=>(P.info? f.type).map fun i=>(f.offset,i.size))=some ps∧ ∀(x:τ.den) m υ y o,wg τ x m υ y o→ps[m]? =some (off+o,υ.size)
 | .unit,fs,n,off,h=>by
  simp only[dq]at h
  refine⟨[],?_,fun x m υ y o hf=>by cases hf⟩
  rw[List.drop_of_length_le (by rw[Array.length_toList];omega)];rfl
 | .pair t b,fs,n,off,h=>by
  simp only[dq]at h
  obtain⟨f,hf,ho,ha,hb⟩:=h
  obtain⟨ps,Ge,LJ⟩:=dq.places b fs (n+1) (off+t.size) hb
  obtain⟨i,hi,hs,_⟩:=(show gh P t f.type from ha).base
  have dF:n<fs.toList.length:=by rw[Array.length_toList];exact(Array.getElem?_eq_some_iff.1 hf).1
  have hfe:fs.toList[n]=f:=by rw[Array.getElem_toList];exact(Array.getElem?_eq_some_iff.1 hf).2
  refine⟨(off,t.size)::ps,?_,fun x m υ y o wh=> ?_⟩
  ·rw[List.drop_eq_getElem_cons dF,List.mapM_cons,Ge,hfe,hi]
   simp[ho,hs]
  ·cases wh with
   |here=>simp
   |there _ h'=>simp[LJ _ _ _ _ _ h',Nat.add_assoc]
 | .int _,_,_,_,h| .bool,_,_,_,h| .str,_,_,_,h| .slice _,_,_,_,h| .arr _ _,_,_,_,h=>by simp[dq]at h
theorem gh.places{τ:Ty}{t:TypeId}(h:gh P τ t)(ha:τ.isAgg=true)(hn: ∀n e,τ≠ .arr n e):
  ∃fs ps,P.underlying t=some (.struct fs)∧fs.toList.mapM (fun f=>(P.info? f.type).map fun i=>(f.offset,i.size))=some ps∧ ∀(x:τ.den) m υ y o,wg τ x m υ y o→ps[m]? =some (o,υ.size):=by
 cases τ with
 |unit=>
  simp only[gh,dq]at h
  obtain⟨_,fs,hu,hs⟩:=h
  refine⟨fs,[],hu,?_,fun x m υ y o hf=>by cases hf⟩
  have:fs.toList=[]:=List.eq_nil_of_length_eq_zero (by rw[Array.length_toList];exact hs)
  rw[this];rfl
 |pair t' b=>
  simp only[gh,dq]at h
  obtain⟨_,fs,f,hu,hf,ho,ha',hb⟩:=h
  have hg:dq P (.pair t' b) (.inr (fs,0,0)):=by
   simp only[dq]
   exact⟨f,hf,ho,ha',by simpa using hb⟩
  obtain⟨ps,Ge,LJ⟩:=dq.places _ fs 0 0 hg
  exact⟨fs,ps,hu,Ge,fun x m υ y o wh=>by simpa using LJ x m υ y o wh⟩
 |arr n e=>exact absurd rfl (hn n e)
 |int _=>simp[Ty.isAgg]at ha
 |bool=>simp[Ty.isAgg]at ha
 |str=>simp[Ty.isAgg]at ha
 |slice _=>simp[Ty.isAgg]at ha
theorem s9{ρ:Operand→Value}{t:TypeId}{ps:Array (Nat×Operand)}(ho:o.op= .build t ps){v:Value}(h:(Instr.build t (ps.map fun(i,x)=>(i,ρ x))).run P w= .ok v w):(execOp ρ o).run P w= .ok (.value v) w:=by
 simp[execOp,ho,h]
theorem ta{ρ:Operand→Value}{t:TypeId}{n:Nat}{ps:Array (Nat×Operand)}(ho:o.op= .buildSlice t n ps){v:Value}{w':World}(h:(Instr.buildSlice t n (ps.map fun(i,x)=>(i,ρ x))).run P w= .ok v w'):(execOp ρ o).run P w= .ok (.value v) w':=by
 simp[execOp,ho,h]
theorem VR.Ix{H:Nat→Option aR}{τ:Ty}(ha:τ.isAgg=true){cs:Array Value}{x:τ.den}(h:Rd w M τ cs.toList x):VR w M H ν (.val τ x) (.agg cs):=by
 simp only[VR,V];rw[if_pos ha];exact⟨cs,rfl,h⟩
theorem Bx(hE:EnvTy P E)(hc:Core c σ a.tmps w M ν){t:TypeId}{ps:Array (Nat×Operand)}(ho:o.op= .build t ps){K:fa α}{n:Nat}{e:Ty}(ht:E.ty t=some (.arr n e))
  (h:pX e σ.H n (partsOf σ.ρ ps) (List.replicate n e.zero) [] [] (fun l rd ups=>K (.val (.arr n e) l) rd ups)=some r) (hn:dB c σ a o w M ν K r next):o.wp P a w next Q:=by
 have hl:=hE.ty t _ ht
 obtain⟨e',hu,hle⟩:=hl.arr
 obtain⟨i,hi,hs,hz,_⟩:=hl.base
 obtain⟨ie,hie,hes,_⟩:=hle.base
 have hr0:=Rd.arr.1 (Rd.zero w M (.arr n e))
 obtain⟨l',uw,ju,M',cs',hK,eD,zo,CF,Iw,dA,hf⟩:=vo (partsOf σ.ρ ps) (ps.toList.map fun(p:Nat×Operand)=>(p.1,a.eval p.2)) σ.H M (List.replicate n e.zero) (Ty.bW (.arr n e)).toArray [] [] _ (.refl _) hc.mem (hc.pr ps.toList)
  (by rw[List.length_replicate]) (by rw[List.size_toArray];exact hr0.2.1) hr0.2.2 rfl h
 refine aO (s9 ho (run_build w t _ cs' ?_)) (hn _ _ _ _ _ _ _ hK eD (VR.Ix rfl (Rd.arr.2 ⟨CF,by rw[Array.length_toList];exact Iw,dA⟩)))
 unfold Program.built
 rw[hi,hu]
 simp only[hz,hie,hes,oG]
 exact hf
theorem wv(hE:EnvTy P E)(hc:Core c σ a.tmps w M ν){t:TypeId}{ps:Array (Nat×Operand)}(ho:o.op= .build t ps){K:fa α}{τ:Ty}(ht:E.ty t=some τ)(Vt: ∀n e,τ≠ .arr n e)
  (h:cond τ.isAgg (oC τ σ.H (partsOf σ.ρ ps) τ.zero [] [] (fun l rd ups=>K (Po E (partsOf σ.ρ ps) τ l) rd ups)) none=some r) (hn:dB c σ a o w M ν K r next):o.wp P a w next Q:=by
 obtain⟨C4,h⟩:=bz h
 have hl:=hE.ty t _ ht
 obtain⟨fs,pl,hu,Ge,WN⟩:=hl.places C4 Vt
 obtain⟨i,hi,hs,hz,_⟩:=hl.base
 obtain⟨l',uw,ju,M',cs',hK,eD,zo,dA,hf,GJ⟩:=Bv (place:=(pl.toArray[·]?)) (fun x n υ y o hf=>by simpa using WN x n υ y o hf) (partsOf σ.ρ ps) (ps.toList.map fun(p:Nat×Operand)=>(p.1,a.eval p.2)) σ.H M τ.zero τ.bW.toArray [] [] _ (.refl _) hc.mem (hc.pr ps.toList)
  (Rd.zero w M τ) rfl h
 have hvr:VR w M' (bP σ.H ju) ν (Po E (partsOf σ.ρ ps) τ l') (.agg cs'):=by
  unfold Po
  split
  ·rename_i n e oc
   cases kb:(partsOf σ.ρ ps).all fun p=> !(Nat.beq p.1 n)
   ·exact VR.Ix C4 dA
   ·have hq:=Ir oc
    show VR w M' (bP σ.H ju) ν (.Bf τ l' n) (.agg cs')
    have hv:=VR.Ix (H:=bP σ.H ju) (ν:=ν) C4 dA
    simp only[VR]at hv ⊢
    refine⟨hv,cs',none,rfl,?_⟩
    have hfq:Be τ n=some (.slice e):=by
     unfold dY at hq
     split at hq
     ·rename_i a ha
      rw[ha]
      have:=of_decide_eq_true hq
      rw[this]
     ·cases hq
    have h2:=GJ n _ hfq kb
    have h3:=z7 hq
    simp only[bA,Nat.add_zero]at h3
    have h4:=congrArg (fun l=>l[0]?) h2
    simp only[List.getElem?_take,List.getElem?_drop,Nat.add_zero]at h4
    rw[if_pos (show 0<(Ty.slice e).size from Nat.one_pos),if_pos (show 0<(Ty.slice e).size from Nat.one_pos)]at h4
    rw[h4];exact h3
  ·exact VR.Ix C4 dA
 refine aO (s9 ho (run_build w t _ cs' ?_)) (hn _ _ _ _ _ _ _ hK eD hvr)
 unfold Program.built
 rw[hi,hu]
 have hzc:(bE τ τ.bW).cells=τ.bW.toArray:=by apply Array.ext';rw[eg]
 simp only[hz,Ge,oG,hzc]
 exact hf
theorem zC(hE:EnvTy P E)(hc:Core c σ a.tmps w M ν){t:TypeId}{n:Nat}{ps:Array (Nat×Operand)}(ho:o.op= .buildSlice t n ps){K:fa α}{e:Ty}(ht:E.ty t=some (.slice e)){id:Nat}
  (h:cond (Nat.ble (n*(e.size+1)) 16777216) (lT σ.H id (.own e []) (pX e σ.H n (partsOf σ.ρ ps) (List.replicate n e.zero) [] [] fun l rd ups=>K (.ref id) (id::rd) (ups++[(id,some (.own e l))]))) none=some r)
  (hn:dB c σ a o w M ν K r next):o.wp P a w next Q:=by
 obtain⟨hb,h⟩:=bz h
 obtain⟨aS,h⟩:=gN h
 have hb:=Nat.le_of_ble_eq_true hb
 rw[Nat.mul_add,Nat.mul_one]at hb
 obtain⟨e',hu,hle⟩:=(hE.ty t _ ht).slice
 obtain⟨ie,hie,hes,hz,_⟩:=hle.base
 obtain⟨l',uw,ju,M',cs',hK,eD,zo,CF,Iw,dA,hf⟩:=vo (partsOf σ.ρ ps) (ps.toList.map fun(p:Nat×Operand)=>(p.1,a.eval p.2)) σ.H M (List.replicate n e.zero) (madeCells (bE e e.bW).cells (n*e.size)) [] [] _ (.refl _) hc.mem (hc.pr ps.toList)
  (by rw[List.length_replicate]) (size_madeCells _ _) (lY.made w M e (Nat.le_refl _)) rfl h
 have WA:bP σ.H ju id=none:=zo.none aS
 have p6:=eD.trans (Tr.row eD.mem WA e' (e:=e) (cs:=cs') (l:=l') (cap:=n) (by omega) (by simp[maxLen];omega) Iw dA)
 have cr:(Instr.buildSlice t n (ps.map fun(i,x)=>(i,a.eval x))).run P w= .ok (.slice (some ⟨w.heap.size,0,none⟩) n n) (w.alloc (.cells cs' e')):=by
  by_cases h0:n*e.size=0
  ·rw[h0]at hf
   have WO:madeCells (bE e e.bW).cells 0=(Array.range 0).map fun i:Nat=>(#[]:Array Value)[i%0]! :=by simp[madeCells]
   rw[WO]at hf
   rw[←oG]at hf
   simp[Instr.buildSlice,run_underlying hu,Go.sizeOf,typeInfo,hie,hes,h0,newRow]at hf ⊢
   simp[hf]
  ·refine run_buildSlice w t e' n _ cs' ie _ hu hie hz (by rw[hes];omega) (by rw[hes];exact h0) ?_
   rw[hes,oG]
   exact hf
 refine aO (ta ho cr) (hn _ _ _ _ _ (fun b=>M' b∨b=w.heap.size) (b9 ν id (.slice (some ⟨w.heap.size,0,none⟩) l'.length n)) hK ?_ ?_)
 ·rw[dN];exact p6
 ·simp only[VR]
  exact⟨by rw[dN];show bm _ id _ id≠none;rw[ak];simp,by simp[b9,CF]⟩
end VM
end
section
namespace VM
open Go
variable{P:Program}{E:Env}{o:Oper}{a:Act}{w:World}{M:Nat→Prop}{ν:Nat→Value}{σ:St}{c:Ctx}{α:Type}{r:α}{next:Act→World→Prop}{Q:Exit→Act→World→Prop}
def O1(o:Option Value)(d l:Int):Prop:=(o=none∧l=d)∨ ∃k,o=some (.int k l)
theorem ma(hc:Core c σ a.tmps w M ν){x:Option Operand}{d:Int}{k:Int→Option α}(h:rV (x.map σ.ρ) d k=some r): ∃l,k l=some r∧O1 (x.map a.eval) d l:=by
 cases x with
 |none=>exact⟨d,h,.inl ⟨rfl,rfl⟩⟩
 |some x=>
  obtain⟨i,n,hx,h⟩:=iQ (h:pV (σ.ρ x) (fun _ x=>k x)=some r)
  have hv:=hc.ev x
  rw[hx]at hv
  exact⟨n,h,.inr ⟨i,by rw[←hv.int];rfl⟩⟩
theorem pD{s:Bool}{len cap:Nat}{lo hi mx:Option Value}{l h m:Int}(wx:O1 lo 0 l)(Iy:O1 hi len h)(LV:O1 mx cap m)(hm:mx.isNone=true∨hi.isSome=true)
  (h0:0≤l) (h1:l≤h) (h2:h≤m) (h3:m≤cap):(Instr.sliceBounds s len cap lo hi mx).run P w= .ok (l.toNat,h.toNat,m.toNat) w:=by
 have hb: ∀(k:IntKind) (i:Int) (y:Nat) cd,0≤i→i≤y→(Instr.sliceBound (.int k i) y cd).run P w= .ok i.toNat w:=by
  intro k i y cd h1 h2
  simp[Instr.sliceBound,asIntOf,h1,h2]
 have gk:((m.toNat:Nat):Int)=m:=by omega
 have hh':((h.toNat:Nat):Int)=h:=by omega
 rcases LV with⟨rfl,rfl⟩|⟨km,rfl⟩
 ·rcases Iy with⟨rfl,rfl⟩|⟨kh,rfl⟩
  ·rcases wx with⟨rfl,rfl⟩|⟨kl,rfl⟩
   ·simp[Instr.sliceBounds]
   ·simp[Instr.sliceBounds,hb kl l len _ h0 h1]
  ·rcases wx with⟨rfl,rfl⟩|⟨kl,rfl⟩
   ·simp[Instr.sliceBounds,hb kh h cap _ (by omega) h2]
   ·simp[Instr.sliceBounds,hb kh h cap _ (by omega) h2,hb kl l h.toNat _ h0 (by omega)]
 ·rcases Iy with⟨rfl,rfl⟩|⟨kh,rfl⟩
  ·simp at hm
  ·rcases wx with⟨rfl,rfl⟩|⟨kl,rfl⟩
   ·simp[Instr.sliceBounds,hb km m cap _ (by omega) h3,hb kh h m.toNat _ (by omega) (by omega)]
   ·simp[Instr.sliceBounds,hb km m cap _ (by omega) h3,hb kh h m.toNat _ (by omega) (by omega),hb kl l h.toNat _ h0 (by omega)]
theorem zD{ρ:Operand→Value}{t:TypeId}{x:Operand}{lo hi mx:Option Operand}(ho:o.op= .slice t x lo hi mx){s:ByteArray}{l h:Int}(hu:P.underlying t=some .string)(hx:ρ x= .string s)
  (wx:O1 (lo.map ρ) 0 l) (Iy:O1 (hi.map ρ) s.size h) (LV:mx.isNone=true) (h0:0≤l) (h1:l≤h) (h2:h≤s.size):(execOp ρ o).run P w= .ok (.value (.string (s.extract l.toNat h.toNat))) w:=by
 have hm:mx=none:=by simpa using LV
 subst hm
 have hb:=pD (P:=P) (w:=w) (s:=false) wx Iy (.inl ⟨rfl,rfl⟩) (.inl rfl) h0 h1 h2 (Int.le_refl _)
 simp[execOp,ho,hx,Instr.sliceAt,Instr.slice,run_underlying hu,hb]
theorem oH{ρ:Operand→Value}{t e:TypeId}{x:Operand}{lo hi mx:Option Operand}(ho:o.op= .slice t x lo hi mx){τ:Ty}{ad:Option Addr}{len cap:Nat}{l h m:Int}(hu:P.underlying t=some (.slice e))(hle:gh P τ e)(hx:ρ x= .slice ad len cap)
  (wx:O1 (lo.map ρ) 0 l) (Iy:O1 (hi.map ρ) len h) (LV:O1 (mx.map ρ) cap m) (hm:(mx.map ρ).isNone=true∨(hi.map ρ).isSome=true) (h0:0≤l) (h1:l≤h) (h2:h≤m) (h3:m≤cap):
  (execOp ρ o).run P w= .ok (.value (.slice (if m.toNat=l.toNat then ad else ad.map (·.add (l.toNat*τ.size))) (h.toNat-l.toNat) (m.toNat-l.toNat))) w:=by
 have hb:=pD (P:=P) (w:=w) (s:=true) wx Iy LV hm h0 h1 h2 h3
 simp[execOp,ho,hx,Instr.sliceAt,Instr.slice,run_underlying hu,hb,bV hle]
theorem vp{x:Option Operand}(h:gX x=true)(a:Act): ∃k,x.map a.eval=some (.int k 0):=by
 unfold gX at h
 split at h
 ·rename_i k n
  have:n=0:=by simpa using h
  subst this
  exact⟨k,rfl⟩
 ·cases h
theorem Rd.cut{e:Ty}{ad:Option Addr}{len cap:Nat}{x:List e.den}(h:Rd w M (.slice e) [.slice ad len cap] x){l hh m:Int}(h0:0≤l)(h1:l≤hh)(h2:hh≤m)(hl:hh≤x.length):
  Rd w M (.slice e) [.slice (if m.toNat=l.toNat then ad else ad.map (·.add (l.toNat*e.size))) (hh.toNat-l.toNat) (m.toNat-l.toNat)] (List.drop l.toNat (List.take hh.toNat x)):=by
 simp only[Rd,List.cons.injEq,and_true]at h ⊢
 obtain⟨a',iR,hv,hc,hr⟩:=h
 cases hv
 have hlen:List.length (List.drop l.toNat (List.take hh.toNat x))=hh.toNat-l.toNat:=by rw[List.length_drop,List.length_take];omega
 refine⟨_,_,by rw[hlen],by rw[hlen];omega,fun i hi=> ?_⟩
 rw[hlen]at hi
 obtain⟨b,off,ha,hb,hm,cs,lh,gB⟩:=hr (l.toNat+i) (by omega)
 rw[if_neg (by omega)]
 refine⟨b,off+l.toNat*e.size,by rw[ha];simp[Addr.add_lit],hb,hm,cs,?_,?_⟩
 ·rw[show off+l.toNat*e.size+i*e.size=off+(l.toNat+i)*e.size from by rw[Nat.add_mul];omega];exact lh
 ·simp only[List.get_eq_getElem,List.getElem_drop,List.getElem_take]at gB ⊢
  exact gB
theorem VR.emp{H:Nat→Option aR}{v:Value}:VR w M H ν .emp v↔ ∃ad,v= .slice ad 0 0:=by simp[VR]
theorem LW(hE:EnvTy P E)(hc:Core c σ a.tmps w M ν){t:TypeId}{x:Operand}{lo hi mx:Option Operand}(ho:o.op= .slice t x lo hi mx){K:fa α}{τ:Ty}(ht:E.ty t=some τ)
  (h:lV τ (lo.isNone&&gX hi&&gX mx) (σ.ρ x) (lo.map σ.ρ) (hi.map σ.ρ) (mx.map σ.ρ) σ.H K=some r) (hn:dB c σ a o w M ν K r next):o.wp P a w next Q:=by
 have s6:=hE.ty t τ ht
 have hv:=hc.ev x
 have hz0: ∀(e:Ty) (e':TypeId) (ad:Option Addr) (len cap:Nat),P.underlying t=some (.slice e')→gh P e e'→a.eval x= .slice ad len cap→(lo.isNone&&gX hi&&gX mx)=true→
   ∃ad',(execOp a.eval o).run P w= .ok (.value (.slice ad' 0 0)) w:=by
  intro e e' ad len cap hu hle hx hz
  simp only[Bool.and_eq_true]at hz
  obtain⟨⟨h1,h2⟩,h3⟩:=hz
  have h1:lo=none:=by simpa using h1
  subst h1
  obtain⟨k2,h2⟩:=vp h2 a
  obtain⟨k3,h3⟩:=vp h3 a
  have:=oH (P:=P) (w:=w) ho hu hle hx (l:=0) (h:=0) (m:=0) (.inl ⟨rfl,rfl⟩) (.inr ⟨k2,h2⟩) (.inr ⟨k3,h3⟩) (.inr (by rw[h2];rfl)) (by omega) (by omega) (by omega) (by omega)
  exact⟨_,this⟩
 unfold lV at h
 split at h
 ·rename_i s hx
  obtain⟨hm,h⟩:=bz h
  obtain⟨l,h,wx⟩:=ma hc h
  obtain⟨hh,h,Iy⟩:=ma hc h
  obtain⟨hk,h⟩:=bz h
  rw[sT]at hk
  obtain⟨h0,h1,h2,h3⟩:=of_decide_eq_true hk
  rw[hx]at hv
  exact aO (zD ho s6.str hv.str wx Iy (by simpa using hm) h0 h1 h2) (hn _ [] [] _ _ _ _ h (.refl hc.mem) (.mkStr _))
 ·rename_i e hx
  obtain⟨e',hu,hle⟩:=s6.slice
  rw[hx]at hv
  obtain⟨ad,hv⟩:=VR.emp.1 hv
  cases hz:(lo.isNone&&gX hi&&gX mx)
  ·rw[hz]at h
   replace h:cond (mx.map σ.ρ).isNone (rV (lo.map σ.ρ) 0 fun l=>rV (hi.map σ.ρ) 0 fun h=>cond (fi l h 0 0) (K .emp [] []) none) none=some r:=h
   obtain⟨hm,h⟩:=bz h
   obtain⟨l,h,wx⟩:=ma hc h
   obtain⟨hh,h,Iy⟩:=ma hc h
   obtain⟨hk,hK⟩:=bz h
   rw[sT]at hk
   obtain⟨h0,h1,h2,h3⟩:=of_decide_eq_true hk
   have gk:mx=none:=by simpa using hm
   subst gk
   have:=oH (P:=P) (w:=w) ho hu hle hv wx Iy (.inl ⟨rfl,rfl⟩) (.inl rfl) h0 h1 (m:=0) (by omega) (by omega)
   refine aO this (hn _ [] [] _ _ _ _ hK (.refl hc.mem) (VR.emp.2 ?_))
   rw[show hh.toNat-l.toNat=0 from by omega,show(0:Int).toNat-l.toNat=0 from by omega]
   exact⟨_,rfl⟩
  ·rw[hz]at h
   obtain⟨ad',cr⟩:=hz0 e e' ad 0 0 hu hle hv hz
   exact aO cr (hn _ [] [] _ _ _ _ h (.refl hc.mem) (VR.emp.2 ⟨_,rfl⟩))
 ·rename_i e gG
  obtain⟨e',hu,hle⟩:=s6.slice
  cases hz:(lo.isNone&&gX hi&&gX mx)
  ·rw[hz]at h
   obtain⟨y,rd,ups,M',h,eD,hV,_⟩:=jw (.refl _) hc.mem hv h
   replace h:cond ((mx.map σ.ρ).isNone||(hi.map σ.ρ).isSome) (rV (lo.map σ.ρ) 0 fun l=>rV (hi.map σ.ρ) (List.length y:Int) fun h=>rV (mx.map σ.ρ) (List.length y:Int) fun m=>
    cond (fi l h m (List.length y:Int)) (K (.val (.slice e) (List.drop l.toNat (List.take h.toNat y))) rd ups) none) none=some r:=h
   obtain⟨hm,h⟩:=bz h
   obtain⟨l,h,wx⟩:=ma hc h
   obtain⟨hh,h,Iy⟩:=ma hc h
   obtain⟨m,h,LV⟩:=ma hc h
   obtain⟨hk,h⟩:=bz h
   rw[sT]at hk
   obtain⟨h0,h1,h2,h3⟩:=of_decide_eq_true hk
   have hr:=V.slice.1 hV
   have dA:=hr
   simp only[Rd,List.cons.injEq,and_true]at dA
   obtain⟨ad,cap,hx,abD,_⟩:=dA
   rw[hx]at hr
   have gk:(mx.map a.eval).isNone=true∨(hi.map a.eval).isSome=true:=by
    simp only[Bool.or_eq_true,Option.isNone_map,Option.isSome_map]at hm ⊢;exact hm
   have WQ: ∃m',O1 (mx.map a.eval) cap m'∧hh≤m'∧m'≤cap:=by
    rcases LV with⟨h9,_⟩|⟨k,h9⟩
    ·exact⟨cap,.inl ⟨h9,rfl⟩,by omega,Int.le_refl _⟩
    ·exact⟨m,.inr ⟨k,h9⟩,h2,by omega⟩
   obtain⟨m',WQ,h4,h5⟩:=WQ
   have cr:=oH (P:=P) (w:=w) ho hu hle hx wx Iy WQ gk h0 h1 h4 h5
   refine aO cr (hn _ _ _ _ _ M' _ h eD ?_)
   simp only[VR]
   exact V.slice.2 (hr.cut h0 h1 h4 (by omega))
  ·rw[hz]at h
   obtain⟨y,rd,h,hS⟩:=vk hc.mem hv h
   obtain⟨ad,cap,hx,_⟩:=hS
   obtain⟨ad',cr⟩:=hz0 e e' ad _ cap hu hle hx hz
   exact aO cr (hn _ _ [] _ _ _ _ h (.refl hc.mem) (VR.emp.2 ⟨_,rfl⟩))
 ·cases h
end VM
end
section
namespace VM
open Go
variable{P:Program}{E:Env}{o:Oper}{a:Act}{w:World}{M:Nat→Prop}{ν:Nat→Value}{σ:St}{c:Ctx}{α:Type}{r:α}{next:Act→World→Prop}{Q:Exit→Act→World→Prop}
theorem nj{t ty e:TypeId}{i:TypeInfo}(ht:P.underlying t=some (.slice e))(hi:P.info? e=some i)(base:Option Addr)(n cap:Nat)(h:n≤cap)(a':Option Addr)(cp:Nat):
  (Builtin.append_ #[t,t] ty #[.slice base n cap,.slice a' 0 cp]).run P w= .ok (.slice base n cap) w:=by
 cases a'<;>cases base<;>simp[Builtin.append_,run_underlying ht,Go.sizeOf,typeInfo,hi,Builtin.lenOf,h,Builtin.firstCells,loadCells,loadCellsFrom,storeCells]
theorem Dg{t ty e te:TypeId}{i:TypeInfo}(ht:P.underlying t=some (.slice e))(hi:P.info? e=some i){b n cap m cp:Nat}{a':Addr}{news:List Value}{cs:Array Value}
  (hg:w.heap[b]? =some (.cells cs te (0,0))) (hs:cs.size=cap*i.size) (hl:news.length=m*i.size) (hn: ∀j u,news[j]? =some u→w.cell? (a'.add j)=some u) (h1: ∀u∈news,u.oneCell'=true) (hr:n+m≤cap):
  (Builtin.append_ #[t,t] ty #[.slice (some ⟨b,0,none⟩) n cap,.slice (some a') m cp]).run P w= .ok (.slice (some ⟨b,0,none⟩) (n+m) cap) (w.setRow b (c5 cs.toList (n*i.size) news).toArray):=by
 have hf:=run_firstCells_some (P:=P) w i.size m a' m cp news hl hn
 have hm:(n+m)*i.size≤cap*i.size:=Nat.mul_le_mul_right _ hr
 rw[Nat.add_mul]at hm
 have Gb:=run_storeCells_at (P:=P) b (n*i.size) te news 0 cs w hg (by omega) h1
 simp only[Nat.add_zero]at Gb
 simp[Builtin.append_,run_underlying ht,Go.sizeOf,typeInfo,hi,Builtin.lenOf,hr,hf,Addr.add_lit,Gb,c5]
theorem ez{args:Array Operand}{t:TypeId}{x y:Operand}{v:Value}{w':World}(ho:o.op= .call {callee:= .builtin .append,args,argTypes:= #[t,t]})(ha:args.toList=[x,y])
  (h:(Builtin.append_ #[t,t] o.type #[a.eval x,a.eval y]).run P w= .ok v w'):(execOp a.eval o).run P w= .ok (.value v) w':=by
 obtain⟨cs,hr⟩:=lX (P:=P) (ρ:=a.eval) ho (w:=w)
 rw[hr]
 have:args.map a.eval= #[a.eval x,a.eval y]:=by apply Array.ext';simp[ha]
 rw[this]
 simp[builtin,h]
theorem xx{H:Nat→Option aR}(hm:Mem c H w M ν){id:Nat}(aS:H id=none){t ty:TypeId}{e':TypeId}{e:Ty}(hu:P.underlying t=some (.slice e'))(hle:gh P e e')
  {xs ys:List e.den} {olds news:List Value} {base:Option Addr} {cap cp:Nat} {a':Addr} (LX:base=none→xs=[]∧cap=0)
  (wx:olds.length=xs.length*e.size) (hro:lY w M e olds xs) (ho: ∀b,base=some b→ ∀j u,olds[j]? =some u→w.cell? (b.add j)=some u)
  (O2:news.length=ys.length*e.size) (hrn:lY w M e news ys) (hn: ∀j u,news[j]? =some u→w.cell? (a'.add j)=some u)
  (hg:cap<xs.length+ys.length) (hs:xs.length+ys.length<sS):
  ∃v w' M' ν',(Builtin.append_ #[t,t] ty #[.slice base xs.length cap,.slice (some a') ys.length cp]).run P w= .ok v w'∧Tr c H w M ν (bm H id (some (.own e (xs++ys)))) w' M' ν'∧ν' id=v:=by
 obtain⟨i,hi,oy,hz,WR⟩:=hle.base
 have hzs:(bE e e.bW).cells.size=e.size:=by rw[←Array.length_toList,eg,jR]
 have Vu:xs.length+ys.length≤maxLen:=by simp only[sS,maxLen]at hs ⊢;omega
 have Dh:(xs.length+ys.length)*i.bytes≤140737488355328:=by
  have:(xs.length+ys.length)*i.bytes≤68719476736*2048:=Nat.mul_le_mul (by simp only[sS]at hs;omega) WR
  omega
 have cr: ∃iR rest,(Builtin.append_ #[t,t] ty #[.slice base xs.length cap,.slice (some a') ys.length cp]).run P w= .ok (.slice (some ⟨w.heap.size,0,none⟩) (xs.length+ys.length) iR) (w.drew.alloc (.cells (olds++news++rest).toArray e'))∧
   xs.length+ys.length≤iR∧iR≤maxLen∧rest.length=(iR-(xs.length+ys.length))*e.size:=by
  refine⟨grownCap w (xs.length+ys.length) cap e',(Builtin.zeroCells (bE e e.bW).cells (grownCap w (xs.length+ys.length) cap e'-(xs.length+ys.length))).toList,?_,grownCap_ge _ _ _ _,grownCap_le_maxLen _ _ _ _ Vu,?_⟩
  ·cases base with
   |none=>
    obtain⟨rfl,rfl⟩:=LX rfl
    have ho0:olds=[]:=List.eq_nil_of_length_eq_zero (by rw[wx];simp)
    subst ho0
    have:=run_append_nil (P:=P) w t ty e' i _ hu hi hz a' ys.length cp news (by rw[O2,oy]) hn (by simpa using hg) (by simp only[sS]at hs;omega) (by simp at Dh;omega)
    simp only[List.length_nil,Nat.zero_add,List.nil_append]
    rw[this]
    congr 2
    apply congrArg (fun z=>Obj.cells z e' (0,0))
    apply Array.ext';simp
   |some b=>
    have:=run_append_grow (P:=P) w t ty e' i _ hu hi hz b xs.length cap olds (by rw[wx,oy]) (ho b rfl) a' ys.length cp news (by rw[O2,oy]) hn hg (by simp only[sS]at hs;omega) (growslice_fits hg Dh)
    rw[this]
    congr 2
    apply congrArg (fun z=>Obj.cells z e' (0,0))
    apply Array.ext';simp
  ·rw[Array.length_toList,size_zeroCells,hzs]
 obtain⟨iR,rest,cr,Df,WS,abI⟩:=cr
 have hlen:(xs++ys).length=xs.length+ys.length:=List.length_append
 have hd:=Tr.drew hm
 have hon:(olds++news).length=(xs++ys).length*e.size:=by rw[List.length_append,wx,O2,hlen,Nat.add_mul]
 have GK:=Tr.row hd.mem aS e' (e:=e) (cs:=(olds++news++rest).toArray) (l:=xs++ys) (cap:=iR) (by rw[hlen];exact Df) WS
  (by rw[List.size_toArray,List.length_append,hon,abI,hlen,←Nat.add_mul];congr 1;omega)
  (lY.more ((hro.append wx hrn).br hd.br) (by rw[hon];exact Nat.le_refl _))
 refine⟨_,_,_,_,cr,hd.trans GK,?_⟩
 rw[←hlen];simp[b9]
theorem JJ(hE:EnvTy P E)(hc:Core c σ a.tmps w M ν){args:Array Operand}{ts:Array TypeId}{t t':TypeId}{x y:Operand}(ho:o.op= .call {callee:= .builtin .append,args,argTypes:=ts})(ha:args.toList=[x,y])(hts:ts.toList=[t,t']){K:fa α}{e:Ty}
  (ht:E.ty t=some (.slice e)) {id:Nat} (h:cond (Nat.beq t t') (lT σ.H id (.own e []) (CU id e (σ.ρ x) (σ.ρ y) σ.H K)) none=some r) (hn:dB c σ a o w M ν K r next):o.wp P a w next Q:=by
 obtain⟨htt,h1⟩:=bz h
 clear h
 have htt:=Nat.eq_of_beq_eq_true htt
 subst htt
 obtain⟨aS,h⟩:=gN h1
 clear h1
 have ag6:ts= #[t,t]:=by apply Array.ext';simpa using hts
 subst ag6
 obtain⟨e',hu,hle⟩:=(hE.ty t _ ht).slice
 obtain⟨i,hi,oy,hz,WR⟩:=hle.base
 have Bu:=hc.ev x
 unfold CU at h
 obtain⟨ys,rd,h,hS⟩:=vk hc.mem (hc.ev y) h
 have WT:(ys=[]∧ ∃a' cp,a.eval y= .slice a' 0 cp)∨(ys≠[]∧ ∃a' cp news,a.eval y= .slice (some a') ys.length cp∧news.length=ys.length*e.size∧(∀j u,news[j]? =some u→w.cell? (a'.add j)=some u)∧lY w M e news ys∧ ∀u∈news,u.oneCell'=true):=by
  by_cases hy:ys=[]
  ·left
   obtain⟨a',cp,hv,_⟩:=hS
   exact⟨hy,a',cp,by rw[hv,hy];rfl⟩
  ·right
   obtain⟨b,off,cp,news,hv,hl,lh,gB,h1⟩:=hS.cells hy
   exact⟨hy,⟨b,off,none⟩,cp,news,hv,hl,fun j u hj=>by rw[Addr.add_lit];exact lh j u hj,gB,h1⟩
 split at h
 ·
  rename_i hx
  rw[hx]at Bu
  obtain⟨ad,Bu⟩:=VR.emp.1 Bu
  obtain⟨O3,h⟩:=bz h
  rw[xh]at O3
  have O3:=of_decide_eq_true O3
  rcases WT with⟨rfl,a',cp,wo⟩|⟨hy,a',cp,news,wo,hl,lh,gB,h1⟩
  ·refine aO (ez ho ha (by rw[Bu,wo];exact nj hu hi ad 0 0 (Nat.le_refl _) a' cp)) (hn _ _ _ _ _ _ _ h (Tr.nothing hc.mem aS e ad) ?_)
   simp only[VR]
   exact⟨by show bm _ id _ id≠none;rw[ak];simp,by simp[b9]⟩
  ·have GM:0<ys.length:=List.length_pos_iff.2 hy
   obtain⟨v,w',M',ν',cr,eD,hv⟩:=xx (P:=P) (ty:=o.type) hc.mem aS hu hle (xs:=[]) (ys:=ys) (olds:=[]) (news:=news) (base:=ad) (cap:=0) (cp:=cp) (a':=a') (fun _=>⟨rfl,rfl⟩) (by simp) (fun i hi=>absurd hi (by simp)) (fun _ _ j u hj=>by simp at hj)
    hl gB lh (by simpa using GM) (by simpa using O3)
   refine aO (ez ho ha (by rw[Bu,wo];exact cr)) (hn _ _ _ _ _ _ _ h eD ?_)
   simp only[VR]
   exact⟨by show bm _ id _ id≠none;rw[ak];simp,hv.symm⟩
 ·
  rename_i j hx
  rw[hx]at Bu
  simp only[VR]at Bu
  obtain⟨_,Bu⟩:=Bu
  split at h
  ·rename_i e1 l hj
   obtain⟨e2,h⟩:=aY h
   cases e2
   obtain⟨O3,h⟩:=bz h
   rw[xh]at O3
   have O3:l.length+ys.length<sS:=of_decide_eq_true O3
   have gG:id≠j:=fun e=>by rw[e,hj]at aS;cases aS
   have kK:bm σ.H j (some .gone) id=none:=by rw[al _ _ gG];exact aS
   have Gf:=Tr.gone hc.mem j
   have iD:=hc.mem.im j _ hj
   simp only[ER]at iD
   rcases iD with⟨rfl,ad,WU⟩|⟨b,cs,te,cap,WU,hg,hM,Lj,hl,zm,hs,hr⟩
   ·rw[WU]at Bu
    rcases WT with⟨rfl,a',cp,wo⟩|⟨hy,a',cp,news,wo,hl,lh,gB,h1⟩
    ·refine aO (ez ho ha (by rw[Bu,wo];exact nj hu hi ad 0 0 (Nat.le_refl _) a' cp)) (hn _ _ _ _ _ _ _ h (Gf.trans (Tr.nothing Gf.mem kK e ad)) ?_)
     simp only[VR]
     exact⟨by show bm _ id _ id≠none;rw[ak];simp,by simp[b9]⟩
    ·have GM:0<ys.length:=List.length_pos_iff.2 hy
     obtain⟨v,w',M',ν',cr,eD,hv⟩:=xx (P:=P) (ty:=o.type) Gf.mem kK hu hle (xs:=[]) (ys:=ys) (olds:=[]) (news:=news) (base:=ad) (cap:=0) (cp:=cp) (a':=a') (fun _=>⟨rfl,rfl⟩) (by simp) (fun i hi=>absurd hi (by simp)) (fun _ _ j u hj=>by simp at hj)
      hl gB lh (by simpa using GM) (by simpa using O3)
     refine aO (ez ho ha (by rw[Bu,wo];exact cr)) (hn _ _ _ _ _ _ _ h (Gf.trans eD) ?_)
     simp only[VR]
     exact⟨by show bm _ id _ id≠none;rw[ak];simp,hv.symm⟩
   ·rw[WU]at Bu
    have C8:cs.toList.length=cap*e.size:=by rw[Array.length_toList,hs]
    have JK:l.length*e.size≤cap*e.size:=Nat.mul_le_mul_right _ hl
    rcases WT with⟨rfl,a',cp,wo⟩|⟨hy,a',cp,news,wo,O2,lh,gB,h1⟩
    ·refine aO (ez ho ha (by rw[Bu,wo];exact nj hu hi _ _ cap hl a' cp)) (hn _ _ _ _ _ M (b9 ν id (ν j)) h ?_ ?_)
     ·refine Tr.rename hc.mem hj aS (.inr rfl) ?_
      rw[List.append_nil]
      exact hc.mem.im j _ hj
     ·simp only[VR]
      exact⟨by show bm _ id _ id≠none;rw[ak];simp,by simp[b9,WU]⟩
    ·by_cases tb:l.length+ys.length≤cap
     ·have hmul:(l.length+ys.length)*e.size≤cap*e.size:=Nat.mul_le_mul_right _ tb
      rw[Nat.add_mul]at hmul
      have cr:=Dg (P:=P) (ty:=o.type) hu hi (w:=w) (b:=b) (n:=l.length) (cap:=cap) (m:=ys.length) (cp:=cp) (a':=a') (news:=news) (cs:=cs) hg (by rw[hs,oy]) (by rw[O2,oy]) lh h1 tb
      rw[oy]at cr
      have Pv:c5 cs.toList (l.length*e.size) news=(cs.toList.take (l.length*e.size)++news)++cs.toList.drop (l.length*e.size+news.length):=rfl
      have hold:lY w M e (cs.toList.take (l.length*e.size)) l:=lY.take hr (Nat.le_refl _)
      have htl:(cs.toList.take (l.length*e.size)).length=l.length*e.size:=by rw[List.length_take];omega
      have Vv:lY w M e (c5 cs.toList (l.length*e.size) news) (l++ys):=by
       rw[Pv]
       refine lY.more (hold.append htl gB) ?_
       rw[List.length_append,List.length_append,htl,O2,Nat.add_mul];exact Nat.le_refl _
      have hsl:(c5 cs.toList (l.length*e.size) news).length=cap*e.size:=by rw[dR (by omega)];exact C8
      have PD:Tr c σ.H w M ν (bm σ.H j (some (.own e l))) (w.setRow b (c5 cs.toList (l.length*e.size) news).toArray) M ν:=by
       refine Tr.write (e':= .own e l) hc.mem hj trivial trivial (.refl _) (by rw[WU];simp[dV];omega) hg fun Ga hk uB=> ?_
       simp only[ER]
       refine .inr ⟨b,_,te,cap,WU,setRow_heap w b cs _ te _ hg,uB,Lj,hl,zm,by rw[List.size_toArray];exact hsl,fun k zA=> ?_⟩
       have:=(Vv k (by rw[List.length_append];omega)).br hk
       rw[List.getElem_append_left zA]at this
       exact this
      rw[uz hj]at PD
      have p6:Tr c σ.H (w.setRow b (c5 cs.toList (l.length*e.size) news).toArray) M ν (bm (bm σ.H j (some .gone)) id (some (.own e (l++ys)))) (w.setRow b (c5 cs.toList (l.length*e.size) news).toArray) M (b9 ν id (.slice (some ⟨b,0,none⟩) (l++ys).length cap)):=by
       refine Tr.rename PD.mem hj aS (.inr (by rw[WU];simp[dV])) ?_
       simp only[ER]
       refine .inr ⟨b,_,te,cap,rfl,setRow_heap w b cs _ te _ hg,hM,Lj,by rw[List.length_append];exact tb,zm,by rw[List.size_toArray];exact hsl,(Vv.br PD.br)⟩
      refine aO (ez ho ha (by rw[Bu,wo];exact cr)) (hn _ _ _ _ _ _ _ h (PD.trans p6) ?_)
      simp only[VR]
      exact⟨by show bm _ id _ id≠none;rw[ak];simp,by simp[b9]⟩
     ·obtain⟨v,w',M',ν',cr,eD,hv⟩:=xx (P:=P) (ty:=o.type) Gf.mem kK hu hle (xs:=l) (ys:=ys) (olds:=cs.toList.take (l.length*e.size)) (news:=news) (base:=some ⟨b,0,none⟩) (cap:=cap) (cp:=cp) (a':=a') (fun h=>by cases h)
       (by rw[List.length_take];omega) (lY.take hr (Nat.le_refl _)) (fun b' di k u hk=>by
        cases di
        rw[Addr.add_lit,cell_of hg]
        rw[List.getElem?_take]at hk
        split at hk
        ·rw[←Array.getElem?_toList];simpa using hk
        ·cases hk)
       O2 gB lh (by omega) O3
      refine aO (ez ho ha (by rw[Bu,wo];exact cr)) (hn _ _ _ _ _ _ _ h (Gf.trans eD) ?_)
      simp only[VR]
      exact⟨by show bm _ id _ id≠none;rw[ak];simp,hv.symm⟩
  ·cases h
 ·cases h
end VM
end
section
namespace VM
open Go
variable{P:Program}{E:Env}{o:Oper}{a:Act}{w:World}{M:Nat→Prop}{ν:Nat→Value}{σ:St}{c:Ctx}{α:Type}{r:α}{next:Act→World→Prop}{Q:Exit→Act→World→Prop}
def pS:{m:AM}→{ms:List AM}→HP (m::ms)→m.den
 |_,[],x=>x
 |_,_::_,x=>x.1
def uq:{m:AM}→{ms:List AM}→HP (m::ms)→HP ms
 |_,[],_=>()
 |_,_::_,x=>x.2
def AM.fk:AM→Bool
 | .io _=>true
 |_=>false
def AM.PE:AM→Bool
 | .fn _ _| .eV _=>true
 |_=>false
def A1(w:World)(M:Nat→Prop):(m:AM)→m.den→Value→Prop
 | .v τ,x,v=>V w M τ v x
 | .own e,x,v=>ER w M v (.own e x)
 | .io τ,x,v=>ER w M v (.obj τ x)
 | .fn f τ,x,v=>VR w M (fun _=>none) (fun _=>undef) (.CQ f (kX τ x)) v
 | .ptr τ,x,v=>ER w M v (.obj τ x)
 | .eV τ,x,v=>VR w M (fun _=>none) (fun _=>undef) (.lS τ x) v
def fB(w:World)(M:Nat→Prop):(ms:List AM)→HP ms→List Value→Prop
 |[],_,vs=>vs=[]
 |_::ms,x,vs=> ∃v CH,vs=v::CH∧A1 w M _ (pS x) v∧fB w M ms (uq x) CH
def cf:AM→Value→List Nat
 | .own _,v| .io _,v| .ptr _,v=>(dV v).toList
 |_,_=>[]
def cv:List AM→List Value→List Nat
 |m::ms,v::vs=>cf m v++cv ms vs
 |_,_=>[]
def dg:List AM→List Value→List Value
 |m::ms,v::vs=>if m.fk then v::dg ms vs else dg ms vs
 |_,_=>[]
def kd:List AM→List Ty
 | .io τ::ms=>τ::kd ms
 |_::ms=>kd ms
 |[]=>[]
def RR(w:World)(M:Nat→Prop):(ms:List AM)→HP ms→List Value→List Value→Prop
 |[],_,vs,ps=>vs=[]∧ps=[]
 |m::ms,x,vs,ps=>(∃p zE,m.fk=true∧ps=p::zE∧A1 w M m (pS x) p∧RR w M ms (uq x) vs zE)∨
  (∃v CH,m.fk=false∧m.PE=false∧vs=v::CH∧A1 w M m (pS x) v∧RR w M ms (uq x) CH ps)
def aZ:List AM→List Value→List Value→List Nat
 |[],_,_=>[]
 |m::ms,vs,ps=>if m.fk then cf m (ps.headD undef)++aZ ms vs ps.tail else cf m (vs.headD undef)++aZ ms vs.tail ps
def Ty.flat:Ty→Bool
 | .slice _=>false
 | .pair a b=>a.flat&&b.flat
 | .arr _ e=>e.flat
 |_=>true
def AM.flat:AM→Bool
 | .v τ| .io τ| .own τ| .ptr τ=>τ.flat
 | .fn _ _| .eV _=>false
def qa(vs:List Value):Value:=if h:vs.length=1 then vs[0]else .tuple vs.toArray
structure Left(w:World)(M0:Nat→Prop)(hs:List Nat)(w':World)(M':Nat→Prop):Prop where
 sub: ∀b,M0 b→M' b
 xk: ∀b,M' b→b<w'.heap.size
 less: ∀b,b<w.heap.size→M' b→M0 b∨b∈hs
 frame: ∀b,b<w.heap.size→b∉hs→w'.heap[b]? =w.heap[b]?
 size:w.heap.size≤w'.heap.size
 os:w'.os=w.os
 tape:w'.tape=w.tape
 output:w'.output=w.output
def Di(P:Program)(f:FuncId)(args:Array Value)(w:World)(R:Value→World→Prop):Prop:=
 ∀(o:Oper) (a:Act) (next:Act→World→Prop) (Q:Exit→Act→World→Prop),(∀v w',R v w'→next (a.put o.dst v) w')→o.upon P a next Q ((callFunc f args).run P w)
theorem Di.mono{f:FuncId}{args:Array Value}{R R':Value→World→Prop}(h:Di P f args w R)(hr: ∀v w',R v w'→R' v w'):Di P f args w R':=
 fun o a next Q hn=>h o a next Q fun v w' hv=>hn v w' (hr v w' hv)
theorem nQ{f:FuncId}{fn:Func}{args:Array Value}{R:Value→World→Prop}(hf:P.funcs[f]? =some fn)(hn:(fn.name== "runtime.NumGoroutine")=false)(hb:fn.body.isNone=false)
  (h:Calls P f args w fun e w'=> ∃v,e= .returned v∧R v w'):Di P f args w R:=by
 intro o a next Q rJ
 have hn': ¬fn.name= "runtime.NumGoroutine" :=by simpa using hn
 have di: ¬fn.body=none:=fun e=>by rw[e]at hb;cases hb
 have:(callFunc f args).run P w= .ok (.enter f args) w:=by simp[callFunc,hf,hn',di]
 rw[this,Oper.upon_enter]
 refine Calls.mono h ?_
 rintro e w' ⟨v,rfl,hR⟩
 exact rJ v w' hR
theorem zF{f:FuncId}{args:Array Value}{R:Value→World→Prop}{v:Value}{w':World}(h:(callFunc f args).run P w= .ok (.value v) w')(hR:R v w'):Di P f args w R:=by
 intro o a next Q rJ
 rw[h,Oper.upon_value]
 exact rJ v w' hR
structure eE(P:Program)(f:FuncId)(S:gL):Prop where
 quiet:S.quiet=true→S.res.all AM.flat=true
 ios:kd S.args=kd S.res
 call: ∀(M0:Nat→Prop) (w:World) (vs:List Value) (x:HP S.args) (y:HP S.res),(∀b,M0 b→b<w.heap.size)→
  fB w (fun b=>M0 b∨b∈cv S.args vs) S.args x vs→(cv S.args vs).Nodup→(∀b∈cv S.args vs,¬M0 b)→S.run x=some y→
  Di P f vs.toArray w fun v w'=> ∃us M',v=qa us∧RR w' M' S.res y us (dg S.args vs)∧Left w M0 (cv S.args vs) w' M'∧
   (aZ S.res us (dg S.args vs)).Nodup∧ ∀b∈aZ S.res us (dg S.args vs),¬M0 b
theorem Rd.flat{w:World}{M M':Nat→Prop}: ∀{τ:Ty} {cs:List Value} {x:τ.den},τ.flat=true→Rd w M τ cs x→Rd w M' τ cs x
 | .int _,_,_,_,h| .bool,_,_,_,h| .str,_,_,_,h| .unit,_,_,_,h=>h
 | .slice _,_,_,hf,_=>by simp[Ty.flat]at hf
 | .pair a b,_,_,hf,h=>by
  simp only[Ty.flat,Bool.and_eq_true]at hf
  simp only[Rd]at h ⊢
  obtain⟨c1,c2,rfl,h1,h2⟩:=h
  exact⟨c1,c2,rfl,h1.flat hf.1,h2.flat hf.2⟩
 | .arr n e,_,x,hf,h=>by
  simp only[Ty.flat]at hf
  simp only[Rd]at h ⊢
  obtain⟨hn,Jx,hc,rfl,hr⟩:=h
  exact⟨hn,Jx,hc,rfl,fun i hi j2=>(hr i hi j2).flat hf⟩
theorem A1.flat{w:World}{M M':Nat→Prop}(hM: ∀b,M b→M' b){m:AM}{x:m.den}{v:Value}(hf:m.flat=true)(h:A1 w M m x v):A1 w M' m x v:=by
 cases m with
 |v τ=>
  simp only[A1,V,AM.flat]at h hf ⊢
  split
  ·rename_i ha;rw[if_pos ha]at h;obtain⟨cs,h1,h⟩:=h;exact⟨cs,h1,h.flat hf⟩
  ·rename_i ha;rw[if_neg ha]at h;exact h.flat hf
 |own e=>
  simp only[A1,ER,AM.flat]at h hf ⊢
  rcases h with h|⟨b,cs,t,cap,h1,h2,h3,h4,h5,h6,h7,h8⟩
  ·exact .inl h
  ·exact .inr ⟨b,cs,t,cap,h1,h2,hM b h3,h4,h5,h6,h7,fun i hi=>(h8 i hi).flat hf⟩
 |io τ=>
  simp only[A1,ER,AM.flat]at h hf ⊢
  obtain⟨b,cs,t,h1,h2,h3,h4⟩:=h
  exact⟨b,cs,t,h1,h2,hM b h3,h4.flat hf⟩
 |fn f τ=>simp[AM.flat]at hf
 |eV τ=>simp[AM.flat]at hf
 |ptr τ=>
  simp only[A1,ER,AM.flat]at h hf ⊢
  obtain⟨b,cs,t,h1,h2,h3,h4⟩:=h
  exact⟨b,cs,t,h1,h2,hM b h3,h4.flat hf⟩
theorem RR.flat{w:World}{M M':Nat→Prop}(hM: ∀b,M b→M' b): ∀{ms:List AM} {x:HP ms} {vs ps:List Value},ms.all AM.flat=true→RR w M ms x vs ps→RR w M' ms x vs ps
 |[],_,_,_,_,h=>h
 |m::ms,x,vs,ps,hf,h=>by
  simp only[List.all_cons,Bool.and_eq_true]at hf
  simp only[RR]at h ⊢
  rcases h with⟨p,zE,h1,h2,h3,h4⟩|⟨v,CH,h1,h2,h3,h4,h5⟩
  ·exact .inl ⟨p,zE,h1,h2,h3.flat hM hf.1,RR.flat hM hf.2 h4⟩
  ·exact .inr ⟨v,CH,h1,h2,h3,h4.flat hM hf.1,RR.flat hM hf.2 h5⟩
theorem A1.qb{w w':World}{M M':Nat→Prop}(k:c4 w M w' M'){m:AM}{x:m.den}{v:Value}(hm: ∀b∈cf m v,w'.heap[b]? =w.heap[b]? ∧M' b)(h:A1 w M m x v):A1 w' M' m x v:=by
 cases m with
 |v τ=>exact V.br k h
 |own e=>
  simp only[A1]at h ⊢
  exact ER.br k (fun _ b hb=>hm b (by simp[cf,hb])) h
 |io τ=>
  simp only[A1]at h ⊢
  exact ER.br k (fun _ b hb=>hm b (by simp[cf,hb])) h
 |fn f τ=>exact VR.br k (.refl _ _) h
 |eV τ=>exact VR.br k (.refl _ _) h
 |ptr τ=>
  simp only[A1]at h ⊢
  exact ER.br k (fun _ b hb=>hm b (by simp[cf,hb])) h
theorem fB.qb{w w':World}{M M':Nat→Prop}(k:c4 w M w' M'): ∀{ms:List AM} {x:HP ms} {vs:List Value},(∀b∈cv ms vs,w'.heap[b]? =w.heap[b]? ∧M' b)→fB w M ms x vs→fB w' M' ms x vs
 |[],_,_,_,h=>h
 |m::ms,x,vs,hm,h=>by
  simp only[fB]at h ⊢
  obtain⟨v,CH,rfl,h1,h2⟩:=h
  exact⟨v,CH,rfl,h1.qb k (fun b hb=>hm b (by simp[cv,hb])),fB.qb k (fun b hb=>hm b (by simp[cv,hb])) h2⟩
theorem RR.qb{w w':World}{M M':Nat→Prop}(k:c4 w M w' M'): ∀{ms:List AM} {x:HP ms} {us ps:List Value},(∀b∈aZ ms us ps,w'.heap[b]? =w.heap[b]? ∧M' b)→RR w M ms x us ps→RR w' M' ms x us ps
 |[],_,_,_,_,h=>h
 |m::ms,x,us,ps,hm,h=>by
  simp only[RR]at h ⊢
  rcases h with⟨p,zE,h1,rfl,h2,h3⟩|⟨v,By,h1,h2,rfl,h3,h4⟩
  ·simp only[aZ,h1,if_true,List.headD_cons,List.tail_cons,List.mem_append]at hm
   exact .inl ⟨p,zE,h1,rfl,h2.qb k (fun b hb=>hm b (.inl hb)),RR.qb k (fun b hb=>hm b (.inr hb)) h3⟩
  ·simp only[aZ,h1,Bool.false_eq_true,if_false,List.headD_cons,List.tail_cons,List.mem_append]at hm
   exact .inr ⟨v,By,h1,h2,rfl,h3.qb k (fun b hb=>hm b (.inl hb)),RR.qb k (fun b hb=>hm b (.inr hb)) h4⟩
theorem wY{H:Nat→Option aR}(hm:Mem c H w M ν){a:aW}{v:Value}(hv:VR w M H ν a v){τ:Ty}{k:τ.den→List Nat→e9→Option α}{r:α}(h:g6 true a H τ k=some r):
  ∃y rd ups,k y rd ups=some r∧((ups=[]∧V w M τ v y)∨ ∃id e l,ups=[(id,some (.jP e l))]∧H id=some (.own e l)∧
   ∀M',(∀b,M' b↔(M b∧dV (ν id)≠some b))→V w M' τ v y):=by
 unfold g6 at h
 split at h
 ·obtain⟨e,h⟩:=aY h
  subst e
  simp only[VR]at hv
  exact⟨_,[],[],h,.inl ⟨rfl,hv⟩⟩
 ·obtain⟨e,h⟩:=aY h
  subst e
  simp only[VR]at hv
  exact⟨_,[],[],h,.inl ⟨rfl,hv.1⟩⟩
 ·split at h
  ·rename_i e k' _
   simp only[VR]at hv
   obtain⟨a,rfl⟩:=hv
   refine⟨[],[],[],h,.inl ⟨rfl,V.slice.2 ?_⟩⟩
   simp only[Rd]
   exact⟨a,0,rfl,Nat.le_refl _,fun i hi=>absurd hi (by simp)⟩
  ·cases h
 ·rename_i id
  simp only[VR]at hv
  obtain⟨_,rfl⟩:=hv
  split at h
  ·rename_i e l aS
   obtain⟨e',h⟩:=aY h
   subst e'
   refine⟨_,_,_,h,.inr ⟨id,e,l,rfl,aS,fun M' hM'=> ?_⟩⟩
   obtain⟨M2,_,hV,Bq⟩:=Tr.freeze hm aS
   have:M'=M2:=by funext b;exact propext ((hM' b).trans (Bq b).symm)
   rw[this];exact hV
  ·rename_i e l aS
   obtain⟨e',h⟩:=aY h
   subst e'
   have:=hm.im id _ aS
   simp only[ER]at this
   exact⟨_,_,_,h,.inl ⟨rfl,V.slice.2 this.1⟩⟩
  ·cases h
 ·cases h
theorem LY{H:Nat→Option aR}(hm:Mem c H w M ν): ∀{a:Ty} {x:aW} {v:Value} {k:a.den→List Nat→e9→Option α} {r:α},VR w M H ν x v→vf x H a k=some r→
  ∃y rd ups,k y rd ups=some r∧(ups=[]→VR w M (fun _=>none) (fun _=>undef) (vg a y) v):=by
 intro a x v k r hv h
 unfold vf at h
 split at h
 ·rename_i a k
  split at h
  ·rename_i υ z
   obtain⟨e1,h⟩:=aY h
   subst e1
   refine⟨_,_,_,h,fun _=> ?_⟩
   simp only[vg,VR]at hv ⊢
   exact hv
  ·cases h
 ·rename_i k0 pB
  obtain⟨y,rd,ups,h,hy⟩:=wY hm hv h
  refine⟨y,rd,ups,h,fun hu=> ?_⟩
  rcases hy with⟨_,hy⟩|⟨_,_,_,h3,_⟩
  ·have:vg _ y= .val _ y:=by
    unfold vg
    split
    ·exact(pB _ _ rfl HEq.rfl).elim
    ·rfl
   rw[this]
   simp only[VR];exact hy
  ·rw[hu]at h3;cases h3
theorem xy{H:Nat→Option aR}(hm:Mem c H w M ν): ∀{τ:Ty} {ld:List aW} {vs:List Value} {k:τ.den→List Nat→e9→Option α} {r:α},fj w M H ν ld vs→lU H τ ld k=some r→
  ∃x rd ups,k x rd ups=some r∧(ups=[]→fj w M (fun _=>none) (fun _=>undef) (kX τ x) vs)
 | .unit,[],[],k,r,_,h=>⟨(),[],[],h,fun _=>by simp[kX,fj]⟩
 | .pair a b,x::xs,v::vs,k,r,hv,h=>by
  simp only[fj]at hv
  unfold lU at h
  obtain⟨y,rd,ups,h,hy⟩:=LY hm hv.1 h
  obtain⟨ys,uw,ju,h,hys⟩:=xy hm hv.2 h
  refine⟨(y,ys),_,_,h,fun hu=> ?_⟩
  have h1:ups=[]:=(List.append_eq_nil_iff.1 hu).1
  have h2:ju=[]:=(List.append_eq_nil_iff.1 hu).2
  simp only[kX,fj]
  exact⟨hy h1,hys h2⟩
 | .unit,[],_::_,_,_,hv,_=>by simp[fj]at hv
 |_,_::_,[],_,_,hv,_=>by simp[fj]at hv
 | .unit,_::_,_,_,_,_,h=>by simp[lU]at h
 | .pair _ _,[],_,_,_,_,h=>by simp[lU]at h
 | .int _,_,_,_,_,_,h| .bool,_,_,_,_,_,h| .str,_,_,_,_,_,h| .slice _,_,_,_,_,_,h| .arr _ _,_,_,_,_,_,h=>by simp[lU]at h
end VM
end
section
namespace VM
open Go
variable{P:Program}{E:Env}{o:Oper}{a:Act}{w:World}{M:Nat→Prop}{ν:Nat→Value}{σ:St}{c:Ctx}{α:Type}{r:α}{next:Act→World→Prop}{Q:Exit→Act→World→Prop}
def keys{β:Type}(l:List (Nat×β)):List Nat:=l.map (·.1)
theorem iS{i:Nat}: ∀{ups:e9} {H:Nat→Option aR},i∉keys ups→bP H ups i=H i
 |[],_,_=>rfl
 |u::r,H,h=>by
  simp only[keys,List.map_cons,List.mem_cons,not_or]at h
  show bP (bm H u.1 u.2) r i=_
  rw[iS h.2,al _ _ h.1]
theorem tc(u:Nat×Option aR)(b:e9)(hb:u.1∉keys b): ∀(a:e9) (H:Nat→Option aR),bP H (a++u::b)=bm (bP H (a++b)) u.1 u.2
 |[],H=>by
  show bP (bm H u.1 u.2) b=bm (bP H b) u.1 u.2
  induction b generalizing H with
  |nil=>rfl
  |cons v b ih=>
   simp only[keys,List.map_cons,List.mem_cons,not_or]at hb
   show bP (bm (bm H u.1 u.2) v.1 v.2) b=bm (bP (bm H v.1 v.2) b) u.1 u.2
   rw[←ih hb.2]
   congr 1
   funext i
   by_cases h1:i=v.1
   ·subst h1;rw[ak,al _ _ (Ne.symm hb.1),ak]
   ·by_cases h2:i=u.1
    ·subst h2;rw[al _ _ h1,ak,ak]
    ·rw[al _ _ h1,al _ _ h2,al _ _ h2,al _ _ h1]
 |v::a,H=>tc u b hb a (bm H v.1 v.2)
structure gO(c:Ctx)(w:World)(M:Nat→Prop)(ν:Nat→Value)(H0 H1 Hq:Nat→Option aR)(M1:Nat→Prop)(uo uf:e9)(io:List (Nat×Ty))(hs:List Nat):Prop where
 mem:Mem c H1 w M1 ν
 JL:Mem c Hq w M ν
 br:c4 w M w M1
 ext: ∀i,i∉keys io→bP H0 (uo++uf) i=H1 i
 PF: ∀i,i∉keys io→bP H0 uo i=Hq i
 O4: ∀q∈io,H1 q.1=some .gone∧Hq q.1=some .gone∧ ∃x,H0 q.1=some (.obj q.2 x)
 ion:(keys io).Nodup
 ks: ∀i∈keys (uo++uf),∀e l,H1 i≠some (.own e l)
 ksn: ∀i∈keys (uo++uf),i∉keys io∧ ∃e l,H0 i=some (.own e l)
 fz:Fz Hq H1
 uov: ∀u∈uo,u.2=some .gone
 ufv: ∀u∈uf,∃e l,u.2=some (.jP e l)∧H0 u.1=some (.own e l)
 nd:hs.Nodup
 hM: ∀b∈hs,M1 b
 GN: ∀b∈hs,c.B≤b∨c.may b
 none: ∀b∈hs,∀i e,Hq i=some e→e.mut→dV (ν i)≠some b
 iob: ∀b∈hs,c.M0 b→ ∃q∈io,dV (ν q.1)=some b
 same: ∀i,i∉keys (uo++uf)→i∉keys io→H1 i=H0 i
theorem gO.start{H:Nat→Option aR}(hm:Mem c H w M ν):gO c w M ν H H H M [] [] [] []:=
 ⟨hm,hm,.refl w M,fun _ _=>rfl,fun _ _=>rfl,fun q hq=>by simp at hq,by simp[keys],fun i hi=>by simp[keys]at hi,fun i hi=>by simp[keys]at hi,.refl H,fun u hu=>by simp at hu,fun u hu=>by simp at hu,by simp,fun b hb=>by simp at hb,fun b hb=>by simp at hb,fun b hb=>by simp at hb,fun b hb=>by simp at hb,fun _ _ _=>rfl⟩
theorem Fz.WV{H H1:Nat→Option aR}(h:Fz H H1){i:Nat}{e:Ty}{l:List e.den}(hi:H1 i=some (.own e l)):H i=some (.own e l):=by
 rcases h i with h'|⟨e',l',_,h'⟩
 ·rw[←h',hi]
 ·rw[hi]at h';cases h'
theorem Fz.abN{H H1:Nat→Option aR}(h:Fz H H1){i:Nat}{e:Ty}{l:e.den}(hi:H1 i=some (.obj e l)):H i=some (.obj e l):=by
 rcases h i with h'|⟨e',l',_,h'⟩
 ·rw[←h',hi]
 ·rw[hi]at h';cases h'
theorem Fz.mut{H H1:Nat→Option aR}(h:Fz H H1){i:Nat}{e:aR}(hi:H1 i=some e)(hm:e.mut):H i=some e:=by
 cases e with
 |obj=>exact h.abN hi
 |dE=>
  rcases h i with h'|⟨e',l',_,h'⟩
  ·rw[←h',hi]
  ·rw[hi]at h';cases h'
 |own=>exact h.WV hi
 |jP=>simp[aR.mut]at hm
 |gone=>simp[aR.mut]at hm
theorem gO.freeze{H0 H1 Hq:Nat→Option aR}{M1:Nat→Prop}{uo uf:e9}{io:List (Nat×Ty)}{hs:List Nat}(h:gO c w M ν H0 H1 Hq M1 uo uf io hs){id:Nat}{e:Ty}{l:List e.den}(aS:H1 id=some (.own e l)):
  ∃M2,gO c w M ν H0 (bm H1 id (some (.jP e l))) Hq M2 uo ((id,some (.jP e l))::uf) io hs∧c4 w M1 w M2∧(∀b,M2 b↔(M1 b∧dV (ν id)≠some b)):=by
 obtain⟨M2,eD,_,Bq⟩:=Tr.freeze h.mem aS
 have qS:id∉keys io:=fun hk=>by
  obtain⟨q,hq,rfl⟩:=List.mem_map.1 hk
  have:=(h.O4 q hq).1
  rw[aS]at this;cases this
 have PG:id∉keys (uo++uf):=fun hk=>h.ks id hk e l aS
 have WW:id∉keys uf:=fun hk=>PG (by simp only[keys,List.map_append,List.mem_append];exact .inr hk)
 have h0:H0 id=some (.own e l):=by rw[←h.same id PG qS];exact aS
 have hq:Hq id=some (.own e l):=h.fz.WV aS
 have ll: ∀i,i∈keys (uo++(id,some (aR.jP e l))::uf)↔i=id∨i∈keys (uo++uf):=by
  intro i
  simp only[keys,List.map_append,List.map_cons,List.mem_append,List.mem_cons]
  constructor
  ·rintro(h|h|h)
   ·exact .inr (.inl h)
   ·exact .inl h
   ·exact .inr (.inr h)
  ·rintro(h|h|h)
   ·exact .inr (.inl h)
   ·exact .inl h
   ·exact .inr (.inr h)
 refine⟨M2,⟨eD.mem,h.JL,h.br.trans eD.br,fun i hi=> ?_,h.PF,fun q sd=> ?_,h.ion,fun i hi e' l'=> ?_,fun i hi=> ?_,fun i=> ?_,h.uov,fun u hu=> ?_,h.nd,fun b hb=> ?_,h.GN,h.none,h.iob,fun i hi j2=> ?_⟩,eD.br,Bq⟩
 ·rw[tc _ _ WW]
  by_cases bn:i=id
  ·subst bn;rw[ak,ak]
  ·rw[al _ _ bn,al _ _ bn];exact h.ext i hi
 ·obtain⟨h1,h2,h3⟩:=h.O4 q sd
  have gG:q.1≠id:=fun e=>qS (e▸List.mem_map_of_mem sd)
  exact⟨by rw[al _ _ gG];exact h1,h2,h3⟩
 ·by_cases bn:i=id
  ·subst bn;rw[ak];intro h';cases h'
  ·rw[al _ _ bn]
   exact h.ks i (((ll i).1 hi).resolve_left bn) e' l'
 ·rcases(ll i).1 hi with rfl|hi
  ·exact⟨qS,e,l,h0⟩
  ·exact h.ksn i hi
 ·by_cases bn:i=id
  ·subst bn;exact .inr ⟨e,l,hq,ak _ _ _⟩
  ·rw[al _ _ bn];exact h.fz i
 ·rcases List.mem_cons.1 hu with rfl|hu
  ·exact⟨e,l,rfl,h0⟩
  ·exact h.ufv u hu
 ·exact(Bq b).2 ⟨h.hM b hb,fun di=>h.none b hb id _ hq trivial di⟩
 ·have gG:i≠id:=fun e=>hi ((ll i).2 (.inl e))
  rw[al _ _ gG]
  exact h.same i (fun h'=>hi ((ll i).2 (.inr h'))) j2
theorem gO.hand{H0 H1 Hq:Nat→Option aR}{M1:Nat→Prop}{uo uf:e9}{io:List (Nat×Ty)}{hs:List Nat}(h:gO c w M ν H0 H1 Hq M1 uo uf io hs){id:Nat}{e:Ty}{l:List e.den}(aS:H1 id=some (.own e l)):
  gO c w M ν H0 (bm H1 id (some .gone)) (bm Hq id (some .gone)) M1 ((id,some .gone)::uo) uf io (hs++(dV (ν id)).toList):=by
 have qS:id∉keys io:=fun hk=>by
  obtain⟨q,hq,rfl⟩:=List.mem_map.1 hk
  have:=(h.O4 q hq).1
  rw[aS]at this;cases this
 have PG:id∉keys (uo++uf):=fun hk=>h.ks id hk e l aS
 have WW:id∉keys uo:=fun hk=>PG (by simp only[keys,List.map_append,List.mem_append];exact .inl hk)
 have h0:H0 id=some (.own e l):=by rw[←h.same id PG qS];exact aS
 have hq:Hq id=some (.own e l):=h.fz.WV aS
 have ll: ∀i,i∈keys ((id,some aR.gone)::uo++uf)↔i=id∨i∈keys (uo++uf):=by
  intro i
  simp only[keys,List.map_append,List.map_cons,List.cons_append,List.mem_append,List.mem_cons]
 have wm: ∀b,dV (ν id)=some b→b∉hs:=fun b hb di=>h.none b di id _ hq trivial hb
 refine⟨(Tr.gone h.mem id).mem,(Tr.gone h.JL id).mem,h.br,fun i hi=> ?_,fun i hi=> ?_,fun q sd=> ?_,h.ion,fun i hi e' l'=> ?_,fun i hi=> ?_,fun i=> ?_,fun u hu=> ?_,h.ufv,?_,fun b hb=> ?_,fun b hb=> ?_,fun b hb i e' hi hm=> ?_,fun b hb hb0=> ?_,fun i hi j2=> ?_⟩
 ·have:=tc (id,some .gone) (uo++uf) PG [] H0
  simp only[List.nil_append]at this
  rw[List.cons_append,this]
  by_cases bn:i=id
  ·subst bn;rw[ak,ak]
  ·rw[al _ _ bn,al _ _ bn];exact h.ext i hi
 ·have:=tc (id,some .gone) uo WW [] H0
  simp only[List.nil_append]at this
  rw[this]
  by_cases bn:i=id
  ·subst bn;rw[ak,ak]
  ·rw[al _ _ bn,al _ _ bn];exact h.PF i hi
 ·obtain⟨h1,h2,h3⟩:=h.O4 q sd
  have gG:q.1≠id:=fun e=>qS (e▸List.mem_map_of_mem sd)
  exact⟨by rw[al _ _ gG];exact h1,by rw[al _ _ gG];exact h2,h3⟩
 ·by_cases bn:i=id
  ·subst bn;rw[ak];intro h';cases h'
  ·rw[al _ _ bn]
   exact h.ks i (((ll i).1 hi).resolve_left bn) e' l'
 ·rcases(ll i).1 hi with rfl|hi
  ·exact⟨qS,e,l,h0⟩
  ·exact h.ksn i hi
 ·by_cases bn:i=id
  ·subst bn;left;rw[ak,ak]
  ·rw[al _ _ bn,al _ _ bn];exact h.fz i
 ·rcases List.mem_cons.1 hu with rfl|hu
  ·rfl
  ·exact h.uov u hu
 ·refine List.nodup_append.2 ⟨h.nd,?_,fun x hx y hy=> ?_⟩
  ·cases dV (ν id)<;>simp
  ·rw[Option.mem_toList]at hy
   intro hxy;subst hxy
   exact wm x hy hx
 ·rcases List.mem_append.1 hb with hb|hb
  ·exact h.hM b hb
  ·rw[Option.mem_toList]at hb
   exact(h.mem.im id _ aS).rW trivial hb
 ·rcases List.mem_append.1 hb with hb|hb
  ·exact h.GN b hb
  ·rw[Option.mem_toList]at hb
   exact h.mem.new id _ b aS trivial hb
 ·by_cases bn:i=id
  ·subst bn;rw[ak]at hi;cases hi;simp[aR.mut]at hm
  ·rw[al _ _ bn]at hi
   rcases List.mem_append.1 hb with hb|hb
   ·exact h.none b hb i e' hi hm
   ·rw[Option.mem_toList]at hb
    intro di
    exact h.JL.um i id e' _ b bn hi hm hq trivial di hb
 ·rcases List.mem_append.1 hb with hb|hb
  ·exact h.iob b hb hb0
  ·rw[Option.mem_toList]at hb
   exact absurd hb0 (h.mem.sM id e l b aS hb)
 ·have gG:i≠id:=fun e=>hi ((ll i).2 (.inl e))
  rw[al _ _ gG]
  exact h.same i (fun h'=>hi ((ll i).2 (.inr h'))) j2
theorem gO.WX{H0 H1 Hq:Nat→Option aR}{M1:Nat→Prop}{uo uf:e9}{io:List (Nat×Ty)}{hs:List Nat}(h:gO c w M ν H0 H1 Hq M1 uo uf io hs){id:Nat}{τ:Ty}{x:τ.den}(aS:H1 id=some (.obj τ x)):
  gO c w M ν H0 (bm H1 id (some .gone)) (bm Hq id (some .gone)) M1 uo uf (io++[(id,τ)]) (hs++(dV (ν id)).toList):=by
 have qS:id∉keys io:=fun hk=>by
  obtain⟨q,hq,rfl⟩:=List.mem_map.1 hk
  have:=(h.O4 q hq).1
  rw[aS]at this;cases this
 have hq:Hq id=some (.obj τ x):=h.fz.abN aS
 have PG:id∉keys (uo++uf):=fun hk=>by
  have h1:=h.ext id qS
  obtain⟨_,e,l,h0⟩:=h.ksn id hk
  have key: ∀(ups:e9) (H:Nat→Option aR),(∀u∈ups,u.2=some .gone∨ ∃e l,u.2=some (.jP e l))→id∈keys ups→bP H ups id=some .gone∨ ∃e l,bP H ups id=some (.jP e l):=by
   intro ups
   induction ups with
   |nil=>intro H _ hk;simp[keys]at hk
   |cons u ups ih=>
    intro H hv hk
    by_cases O5:id∈keys ups
    ·exact ih _ (fun v LM=>hv v (List.mem_cons_of_mem _ LM)) O5
    ·show bP (bm H u.1 u.2) ups id=_∨ ∃e l,bP (bm H u.1 u.2) ups id=_
     rw[iS O5]
     have hui:id=u.1:=by
      simp only[keys,List.map_cons,List.mem_cons]at hk O5
      exact hk.resolve_right O5
     rw[hui,ak]
     exact hv u List.mem_cons_self
  have:=key (uo++uf) H0 (fun u hu=>by
   rcases List.mem_append.1 hu with hu|hu
   ·exact .inl (h.uov u hu)
   ·obtain⟨e,l,h',_⟩:=h.ufv u hu;exact .inr ⟨e,l,h'⟩) hk
  rw[h1,aS]at this
  rcases this with h'|⟨_,_,h'⟩<;>cases h'
 have h0:H0 id=some (.obj τ x):=by rw[←h.same id PG qS];exact aS
 have ll: ∀i,i∈keys (io++[(id,τ)])↔i∈keys io∨i=id:=by
  intro i
  simp only[keys,List.map_append,List.map_cons,List.map_nil,List.mem_append,List.mem_cons,List.not_mem_nil,or_false]
 have wm: ∀b,dV (ν id)=some b→b∉hs:=fun b hb di=>h.none b di id _ hq trivial hb
 refine⟨(Tr.gone h.mem id).mem,(Tr.gone h.JL id).mem,h.br,fun i hi=> ?_,fun i hi=> ?_,fun q sd=> ?_,?_,fun i hi e' l'=> ?_,fun i hi=> ?_,fun i=> ?_,h.uov,h.ufv,?_,fun b hb=> ?_,fun b hb=> ?_,fun b hb i e' hi hm=> ?_,fun b hb hb0=> ?_,fun i hi j2=> ?_⟩
 ·rw[al _ _ (fun e=>hi ((ll i).2 (.inr e)))];exact h.ext i (fun h'=>hi ((ll i).2 (.inl h')))
 ·rw[al _ _ (fun e=>hi ((ll i).2 (.inr e)))];exact h.PF i (fun h'=>hi ((ll i).2 (.inl h')))
 ·rcases List.mem_append.1 sd with sd|sd
  ·obtain⟨h1,h2,h3⟩:=h.O4 q sd
   have gG:q.1≠id:=fun e=>qS (e▸List.mem_map_of_mem sd)
   exact⟨by rw[al _ _ gG];exact h1,by rw[al _ _ gG];exact h2,h3⟩
  ·rw[List.mem_singleton]at sd;subst sd
   exact⟨ak _ _ _,ak _ _ _,x,h0⟩
 ·simp only[keys,List.map_append,List.map_cons,List.map_nil]
  refine List.nodup_append.2 ⟨h.ion,by simp,fun x hx y hy=> ?_⟩
  rw[List.mem_singleton]at hy;subst hy
  intro e;exact qS (e▸hx)
 ·by_cases bn:i=id
  ·subst bn;rw[ak];intro h';cases h'
  ·rw[al _ _ bn];exact h.ks i hi e' l'
 ·obtain⟨h1,h2⟩:=h.ksn i hi
  exact⟨fun h'=>((ll i).1 h').elim h1 (fun e=>PG (e▸hi)),h2⟩
 ·by_cases bn:i=id
  ·subst bn;left;rw[ak,ak]
  ·rw[al _ _ bn,al _ _ bn];exact h.fz i
 ·refine List.nodup_append.2 ⟨h.nd,?_,fun x hx y hy=> ?_⟩
  ·cases dV (ν id)<;>simp
  ·rw[Option.mem_toList]at hy
   intro hxy;subst hxy
   exact wm x hy hx
 ·rcases List.mem_append.1 hb with hb|hb
  ·exact h.hM b hb
  ·rw[Option.mem_toList]at hb
   exact(h.mem.im id _ aS).rW trivial hb
 ·rcases List.mem_append.1 hb with hb|hb
  ·exact h.GN b hb
  ·rw[Option.mem_toList]at hb
   exact h.mem.new id _ b aS trivial hb
 ·by_cases bn:i=id
  ·subst bn;rw[ak]at hi;cases hi;simp[aR.mut]at hm
  ·rw[al _ _ bn]at hi
   rcases List.mem_append.1 hb with hb|hb
   ·exact h.none b hb i e' hi hm
   ·rw[Option.mem_toList]at hb
    intro di
    exact h.JL.um i id e' _ b bn hi hm hq trivial di hb
 ·rcases List.mem_append.1 hb with hb|hb
  ·obtain⟨q,hq1,hq2⟩:=h.iob b hb hb0
   exact⟨q,List.mem_append_left _ hq1,hq2⟩
  ·rw[Option.mem_toList]at hb
   exact⟨(id,τ),by simp,hb⟩
 ·have gG:i≠id:=fun e=>j2 ((ll i).2 (.inr e))
  rw[al _ _ gG]
  exact h.same i hi (fun h'=>j2 ((ll i).2 (.inl h')))
end VM
end
section
namespace VM
open Go
variable{P:Program}{E:Env}{o:Oper}{a:Act}{w:World}{M:Nat→Prop}{ν:Nat→Value}{σ:St}{c:Ctx}{α:Type}{r:α}{next:Act→World→Prop}{Q:Exit→Act→World→Prop}
theorem nP.WY{H:Nat→Option aR}{id:Nat}{e e':aR}(aS:H id=some e)(hl:e.gM e'):nP H ν (bm H id (some e')) ν:=
 ⟨fun i e1 hi=>by
  by_cases bn:i=id
  ·subst bn;rw[aS]at hi;cases hi;exact⟨e',ak _ _ _,hl⟩
  ·exact⟨e1,by rw[al _ _ bn];exact hi,.refl e1⟩,fun _ _=>rfl⟩
theorem aR.jy(e:aR):e.gM .gone:=by cases e<;>simp[aR.gM]
theorem VR.abP{H H':Nat→Option aR}{ν':Nat→Value}{a:Ty}{x:a.den}{v:Value}(h:VR w M H ν (vg a x) v):VR w M H' ν' (vg a x) v:=by
 unfold vg at h ⊢
 split at h
 ·simp only[VR]at h ⊢;exact h
 ·simp only[VR]at h ⊢;exact h
theorem fj.free{H H':Nat→Option aR}{ν':Nat→Value}: ∀{τ:Ty} {x:τ.den} {vs:List Value},fj w M H ν (kX τ x) vs→fj w M H' ν' (kX τ x) vs
 | .pair a b,x,v::vs,h=>by
  simp only[kX,fj]at h ⊢
  exact⟨VR.abP h.1,fj.free h.2⟩
 | .pair a b,x,[],h=>by simp[kX,fj]at h
 | .int _,_,[],_| .bool,_,[],_| .str,_,[],_| .slice _,_,[],_| .unit,_,[],_| .arr _ _,_,[],_=>by simp[kX,fj]
 | .int _,_,_::_,h| .bool,_,_::_,h| .str,_,_::_,h| .slice _,_,_::_,h| .unit,_,_::_,h| .arr _ _,_,_::_,h=>by simp[kX,fj]at h
theorem vq{H0 H1 Hq:Nat→Option aR}{M1:Nat→Prop}{uo uf:e9}{io:List (Nat×Ty)}{hs:List Nat}(h:gO c w M ν H0 H1 Hq M1 uo uf io hs){m:AM}{x:aW}{v:Value}(hv:VR w M1 H1 ν x v)
  {k:m.den→(Nat→Option aR)→List Nat→e9→e9→List (Nat×Ty)→Option α} (hk:jZ m x H1 k=some r):
  ∃y H2 rd CD CE zl Lk M2,k y H2 rd CD CE zl=some r∧gO c w M ν H0 H2 Lk M2 (CD++uo) (CE++uf) (io++zl) (hs++cf m v)∧c4 w M1 w M2∧nP H1 ν H2 ν∧A1 w M2 m y v∧
   zl.map (fun q=>ν q.1)=(if m.fk then [v]else [])∧zl.map (·.2)=kd [m]:=by
 unfold jZ at hk
 split at hk
 ·
  rename_i τ k
  obtain⟨y,rd,ups,hk,hy⟩:=wY h.mem hv hk
  rcases hy with⟨rfl,hV⟩|⟨id,e,l,rfl,aS,hV⟩
  ·exact⟨y,H1,rd,[],[],[],Hq,M1,hk,by simpa [cf]using h,.refl w M1,.refl H1 ν,hV,rfl,rfl⟩
  ·obtain⟨M2,hA,hK,Bq⟩:=h.freeze aS
   exact⟨y,_,rd,[],_,[],Hq,M2,hk,by simpa [cf]using hA,hK,.WY aS ⟨rfl,rfl⟩,hV M2 Bq,rfl,rfl⟩
 ·
  rename_i e k
  split at hk
  ·obtain⟨ad,hv⟩:=VR.emp.1 hv
   subst hv
   have hb:dV (.slice ad 0 0)=none:=by cases ad<;>simp[dV]
   exact⟨[],H1,[],[],[],[],Hq,M1,hk,by simpa [cf,hb]using h,.refl w M1,.refl H1 ν,by simp only[A1,ER];exact .inl ⟨trivial,ad,rfl⟩,rfl,rfl⟩
  ·rename_i id
   split at hk
   ·rename_i e' l aS
    obtain⟨e1,hk⟩:=aY hk
    cases e1
    simp only[VR]at hv
    obtain⟨_,rfl⟩:=hv
    refine⟨_,_,_,_,_,_,_,M1,hk,by simpa [cf]using h.hand aS,.refl w M1,.WY aS (aR.jy _),?_,rfl,rfl⟩
    have:=h.mem.im id _ aS
    exact this
   ·cases hk
  ·cases hk
 ·
  rename_i τ k
  split at hk
  ·rename_i id
   split at hk
   ·rename_i υ z aS
    obtain⟨e1,hk⟩:=aY hk
    subst e1
    simp only[VR]at hv
    obtain⟨e,he,jk⟩:=hv
    rw[aS]at he;cases he
    simp only[AR]at jk
    obtain⟨_,b,hb,hv⟩:=jk
    have LZ:v=ν id:=by rw[hv,hb];rfl
    subst LZ
    refine⟨_,_,_,_,_,_,_,M1,hk,by simpa [cf]using h.WX aS,.refl w M1,.WY aS (aR.jy _),?_,rfl,rfl⟩
    have:=h.mem.im id _ aS
    exact this
   ·cases hk
  ·cases hk
 ·
  rename_i f τ k
  split at hk
  ·rename_i f' cs
   obtain⟨hf,WZ⟩:=bz hk
   clear hk
   have hf:=Nat.eq_of_beq_eq_true hf
   subst hf
   have hk:=WZ
   clear WZ
   simp only[VR]at hv
   obtain⟨us,rfl,Px⟩:=hv
   obtain⟨y,rd,ups,hk,hy⟩:=xy h.mem Px hk
   split at hk
   ·exact⟨y,H1,rd,[],[],[],Hq,M1,hk,by simpa [cf]using h,.refl w M1,.refl H1 ν,by simp only[A1,VR];exact⟨us,rfl,hy rfl⟩,rfl,rfl⟩
   ·cases hk
  ·cases hk
 ·cases hk
 ·
  rename_i τ k
  split at hk
  ·rename_i υ z
   obtain⟨e1,hk⟩:=aY hk
   subst e1
   exact⟨_,H1,_,[],[],[],Hq,M1,hk,by simpa [cf]using h,.refl w M1,.refl H1 ν,by simp only[A1,VR]at hv ⊢;exact hv,rfl,rfl⟩
  ·cases hk
theorem vr{H0:Nat→Option aR}: ∀{ms:List AM} {ld:List aW} {vs:List Value} {H1 Hq:Nat→Option aR} {M1:Nat→Prop} {rd:List Nat} {uo uf:e9} {io:List (Nat×Ty)} {hs:List Nat} {K:HP ms→List Nat→e9→e9→List (Nat×Ty)→Option α},
  gO c w M ν H0 H1 Hq M1 uo uf io hs→fj w M1 H1 ν ld vs→n6 ms ld H1 rd uo uf io K=some r→
  ∃x uw CD CE zl H2 Lk M2,K x uw CD CE zl=some r∧gO c w M ν H0 H2 Lk M2 CD CE zl (hs++cv ms vs)∧c4 w M1 w M2∧fB w M2 ms x vs∧
   zl.map (fun q=>ν q.1)=io.map (fun q=>ν q.1)++dg ms vs∧zl.map (·.2)=io.map (·.2)++kd ms
 |[],[],[],H1,Hq,M1,rd,uo,uf,io,hs,K,h,_,hk=>
  ⟨(),rd,uo,uf,io,H1,Hq,M1,hk,by simpa [cv]using h,.refl w M1,rfl,by simp[dg],by simp[kd]⟩
 |[m],[x],[v],H1,Hq,M1,rd,uo,uf,io,hs,K,h,hv,hk=>by
  simp only[fj,and_true]at hv
  obtain⟨y,H2,WL,uo1,uf1,io1,Lk,M2,hk,hA,hK,hG,hy,PH,Ll⟩:=vq h hv (hk:jZ m x H1 _=some r)
  refine⟨y,_,_,_,_,H2,Lk,M2,hk,by simpa [cv]using hA,hK,⟨v,[],rfl,hy,rfl⟩,?_,?_⟩
  ·rw[List.map_append,PH];cases qS:m.fk<;>simp[dg,qS]
  ·rw[List.map_append,Ll]
 |m::n::ms,x::xs,v::vs,H1,Hq,M1,rd,uo,uf,io,hs,K,h,hv,hk=>by
  simp only[fj]at hv
  obtain⟨y,H2,WL,uo1,uf1,io1,Lk,M2,hk,hA,hK,hG,hy,PH,Ll⟩:=vq h hv.1 (hk:jZ m x H1 _=some r)
  obtain⟨ys,uw,CD,CE,zl,H3,Hq3,M3,hk,hA',hK',hys,hi3,hi4⟩:=vr (ms:=n::ms) hA (fj.br hK hG hv.2) hk
  refine⟨(y,ys),_,_,_,_,H3,Hq3,M3,hk,by simpa [cv,List.append_assoc]using hA',hK.trans hK',⟨v,vs,rfl,?_,hys⟩,?_,?_⟩
  ·refine A1.qb hK' (fun b hb=>⟨rfl,hA'.hM b ?_⟩) hy
   exact List.mem_append_left _ (List.mem_append_right _ hb)
  ·rw[hi3,List.map_append,PH,List.append_assoc]
   congr 1
   cases qS:m.fk<;>simp[dg,qS]
  ·rw[hi4,List.map_append,Ll,List.append_assoc]
   congr 1
   cases m<;>simp[kd]
 |[],_::_,_,_,_,_,_,_,_,_,_,_,_,_,hk=>by simp[n6]at hk
 |[_],[],_,_,_,_,_,_,_,_,_,_,_,_,hk=>by simp[n6]at hk
 |[_],_::_::_,_,_,_,_,_,_,_,_,_,_,_,_,hk=>by simp[n6]at hk
 |_::_::_,[],_,_,_,_,_,_,_,_,_,_,_,_,hk=>by simp[n6]at hk
 |_,_::_,[],_,_,_,_,_,_,_,_,_,_,hv,_=>by simp[fj]at hv
 |[],[],_::_,_,_,_,_,_,_,_,_,_,_,hv,_=>by simp[fj]at hv
 |[_],[_],_::_::_,_,_,_,_,_,_,_,_,_,_,hv,_=>by simp[fj]at hv
end VM
end
