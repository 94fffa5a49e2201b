/- A part of the proof of TearDrawn of layer 29: a machine that reads a function of the program as an equation between values. -/
import Derived.Test.YtocmlaipoebfeaaGreatVm2
import Derived.Great.FillDense
set_option linter.all false
section
namespace VM
open Go
variable{P:Program}{E:Env}{o:Oper}{a:Act}{w:World}{M:Nat→Prop}{ν:Nat→Value}{σ:St}{c:Ctx}{α:Type}{r:α}{next:Act→World→Prop}{Q:Exit→Act→World→Prop}
theorem MK(off:Nat)(new:Array Value)(cs:Array Value)(h:off+new.size≤cs.size):
  (new.zipIdx.foldl (fun cs (x:Value×Nat)=>cs.setIfInBounds (off+x.2) x.1) cs)=(df cs.toList off new.toList).toArray:=by
 have h1:new.zipIdx.foldl (fun cs (x:Value×Nat)=>cs.setIfInBounds (off+x.2) x.1) cs=(new.toList.zipIdx 0).foldl (fun cs (x:Value×Nat)=>cs.setIfInBounds (off+x.2) x.1) cs:=by
  rw[←Array.foldl_toList,Array.toList_zipIdx]
 rw[h1]
 obtain⟨hs,hk⟩:=Great.foldl_set off new.toList 0 cs
 apply Array.ext_getElem?
 intro k
 rw[hk k,←Array.getElem?_toList (xs:=cs)]
 have hl:new.toList.length=new.size:=Array.length_toList
 have hc:cs.toList.length=cs.size:=Array.length_toList
 unfold df
 rw[List.getElem?_toArray]
 by_cases h2:k<off
 ·rw[if_neg (by omega),List.append_assoc,List.getElem?_append_left (by rw[List.length_take];omega),List.getElem?_take_of_lt h2]
 ·by_cases h3:k<off+new.size
  ·rw[if_pos (by omega),List.getElem?_append_left (by rw[List.length_append,List.length_take];omega),List.getElem?_append_right (by rw[List.length_take];omega),List.length_take]
   congr 1
   omega
  ·rw[if_neg (by omega),List.getElem?_append_right (by rw[List.length_append,List.length_take];omega),List.length_append,List.length_take,List.getElem?_drop]
   congr 1
   omega
theorem A3{place:Nat→Option (Nat×Nat)}{cs:Array Value}{i:Nat}{v:Value}{rest:List (Nat×Value)}{off s:Nat}(hp:place i=some (off,s))(hs:v.cells.size=s)(h:off+s≤cs.size):
  Instr.fill place cs ((i,v)::rest)=Instr.fill place (df cs.toList off v.cells.toList).toArray rest:=by
 have h1: ¬(decide (v.cells.size≠s)||decide (off+v.cells.size>cs.size))=true:=by simp[hs];omega
 conv=>lhs;unfold Instr.fill
 rw[hp]
 simp only
 rw[if_neg h1]
 congr 1
 exact MK off v.cells cs (by omega)
theorem oP(a:Act)(ps:Array (Nat×Operand)):(ps.map fun(i,x)=>(i,a.eval x)).toList=ps.toList.map fun p=>(p.1,a.eval p.2):=by
 rw[Array.toList_map]
def PR(w:World)(M:Nat→Prop)(H:Nat→Option aN)(ν:Nat→Value):List (Nat×aV)→List (Nat×Value)→Prop
 |[],[]=>True
 |p::ps,q::qs=>p.1=q.1∧VR w M H ν p.2 q.2∧PR w M H ν ps qs
 |_,_=>False
theorem PR.bB{w':World}{M':Nat→Prop}{H H':Nat→Option aN}{ν':Nat→Value}(k:dd w M w' M')(g:nT H ν H' ν'): ∀{ps:List (Nat×aV)} {qs:List (Nat×Value)},PR w M H ν ps qs→PR w' M' H' ν' ps qs
 |[],[],_=>trivial
 |_::_,_::_,h=>⟨h.1,h.2.1.bB k g,PR.bB k g h.2.2⟩
 |[],_::_,h=>h.elim
 |_::_,[],h=>h.elim
theorem Core.pr(hc:Core c σ a.tmps w M ν): ∀ps:List (Nat×Operand),PR w M σ.H ν (ps.map fun p=>(p.1,σ.ρ p.2)) (ps.map fun p=>(p.1,a.eval p.2))
 |[]=>trivial
 |p::ps=>⟨rfl,hc.ev p.2,hc.pr ps⟩
theorem vY{e:Ty}{n:Nat}{H:Nat→Option aN}: ∀(ps:List (Nat×aV)) (qs:List (Nat×Value)) (H1:Nat→Option aN) (M:Nat→Prop) (l:List e.den) (cs:Array Value) (rd:List Nat) (ups:fj) (K:List e.den→List Nat→fj→Option α),
  Fz H H1→Mem c H1 w M ν→PR w M H1 ν ps qs→l.length=n→cs.size=n*e.size→mm w M e cs.toList l→H1=bP H ups→p8 e H n ps l rd ups K=some r→
  ∃l' uZ jP M' cs',K l' uZ jP=some r∧Tr c H1 w M ν (bP H jP) w M' ν∧Fz H (bP H jP)∧l'.length=n∧cs'.size=n*e.size∧mm w M' e cs'.toList l'∧
   Instr.fill (fun i=>some (i*e.size,e.size)) cs qs=some cs':=by
 intro ps
 induction ps with
 |nil=>
  intro qs H1 M l cs rd ups K hz hm hp hl hs hr hH h
  cases qs with
  |cons _ _=>exact hp.elim
  |nil=>exact⟨l,rd,ups,M,cs,h,hH▸Tr.refl hm,hH▸hz,hl,hs,hr,rfl⟩
 |cons p ps ih=>
  intro qs H1 M l cs rd ups K hz hm hp hl hs hr hH h
  cases qs with
  |nil=>exact hp.elim
  |cons q qs=>
   obtain⟨h1,h2,h3⟩:=hp
   unfold p8 at h
   obtain⟨hb,h⟩:=bx h
   have dz:p.1<n:=by simpa [Nat.blt_eq]using hb
   obtain⟨y,XY,HL,M1,h,eL,hV,xI,_⟩:=jS hz hm h2 h
   have hlen:(q.2.cells).size=e.size:=by rw[←Array.length_toList];exact hV.cells.length
   have hmul:=cO (s:=e.size) dz
   have rR:=mm.set (hr.bB eL.bB) (by rw[hl,Array.length_toList,hs];exact Nat.le_refl _) (i:=p.1) (by omega) hV.cells
   obtain⟨l',uZ,jP,M',cs',hK,XZ,z6,DD,hs',eg,hf⟩:=ih qs (bP H1 HL) M1 (l.set p.1 y) (df cs.toList (p.1*e.size) q.2.cells.toList).toArray (XY++rd) (ups++HL) K xI eL.mem (h3.bB eL.bB eL.goes)
    (by rw[List.length_set];exact hl) (by rw[List.size_toArray,dU (by rw[Array.length_toList,Array.length_toList];omega),Array.length_toList,hs]) rR (by rw[dM,hH]) h
   refine⟨l',uZ,jP,M',cs',hK,eL.trans XZ,z6,DD,hs',eg,?_⟩
   rw[A3 (off:=p.1*e.size) (s:=e.size) (by rw[h1]) hlen (by omega)]
   exact hf
theorem Cl{τ:Ty}{H:Nat→Option aN}{place:Nat→Option (Nat×Nat)}(Cm: ∀(x:τ.den) n υ y o,wY τ x n υ y o→place n=some (o,υ.size)):
  ∀(ps:List (Nat×aV)) (qs:List (Nat×Value)) (H1:Nat→Option aN) (M:Nat→Prop) (x:τ.den) (cs:Array Value) (rd:List Nat) (ups:fj) (K:τ.den→List Nat→fj→Option α),
  Fz H H1→Mem c H1 w M ν→PR w M H1 ν ps qs→Rd w M τ cs.toList x→H1=bP H ups→oL τ H ps x rd ups K=some r→
  ∃x' uZ jP M' cs',K x' uZ jP=some r∧Tr c H1 w M ν (bP H jP) w M' ν∧Fz H (bP H jP)∧Rd w M' τ cs'.toList x'∧Instr.fill place cs qs=some cs'∧
   ∀m υ,B4 τ m=some υ→(ps.all fun p=> !(Nat.beq p.1 m))=true→(cs'.toList.drop (ni τ m)).take υ.size=(cs.toList.drop (ni τ m)).take υ.size:=by
 intro ps
 induction ps with
 |nil=>
  intro qs H1 M x cs rd ups K hz hm hp hr hH h
  cases qs with
  |cons _ _=>exact hp.elim
  |nil=>exact⟨x,rd,ups,M,cs,h,hH▸Tr.refl hm,hH▸hz,hr,rfl,fun _ _ _ _=>rfl⟩
 |cons p ps ih=>
  intro qs H1 M x cs rd ups K hz hm hp hr hH h
  cases qs with
  |nil=>exact hp.elim
  |cons q qs=>
   obtain⟨h1,h2,h3⟩:=hp
   unfold oL at h
   obtain⟨υ,y0,of,hf,h⟩:=ob h
   obtain⟨y,XY,HL,M1,h,eL,hV,xI,_⟩:=jS hz hm h2 h
   obtain⟨υ',y',o',k',wZ,gy,Al⟩:=nD h
   obtain⟨rfl,rfl⟩:=wZ.eq
   obtain⟨rfl,rfl⟩:=hf.eq
   obtain⟨e1,Cn⟩:=aX gy
   obtain⟨x',oH,_,gO⟩:=Al _ _ Cn
   have hlen:(q.2.cells).size=(pT τ p.1).size:=by rw[←Array.length_toList];exact hV.cells.length
   have hb:=hf.bound
   have D6:=hr.length
   rw[Array.length_toList]at D6
   obtain⟨x2,uZ,jP,M',cs',hK,XZ,z6,eg,MD,HM⟩:=ih qs (bP H1 HL) M1 x' (df cs.toList (ni τ p.1) q.2.cells.toList).toArray (XY++rd) (ups++HL) K xI eL.mem (h3.bB eL.bB eL.goes)
    (gO w M1 _ _ (hr.bB eL.bB) hV.cells) (by rw[dM,hH]) oH
   refine⟨x2,uZ,jP,M',cs',hK,eL.trans XZ,z6,eg,?_,fun m υ gy jj=> ?_⟩
   ·rw[A3 (off:=ni τ p.1) (s:=(pT τ p.1).size) (by rw[←h1];exact Cm _ _ _ _ _ hf) hlen (by omega)]
    exact MD
   ·rw[List.all_cons,Bool.and_eq_true]at jj
    rw[HM m υ gy jj.2]
    obtain⟨y2,o2,hf2⟩:=oc gy x
    obtain⟨e3,e4⟩:=hf2.eq
    subst e3 e4
    have g7:p.1≠m:=fun e=>by have:=jj.1;rw[e,Nat.beq_refl]at this;cases this
    have hap:=hf.apart hf2 g7
    have rQ:=hf2.bound
    show((df cs.toList (ni τ p.1) q.2.cells.toList).drop _).take _=_
    rw[Cb (by rw[Array.length_toList];omega) (by rw[Array.length_toList,Array.length_toList];omega)]
theorem dw.places: ∀(τ:Ty) (fs:Array Field) (n off:Nat),dw P τ (.inr (fs,n,off))→
  ∃ps,(fs.toList.drop n).mapM (fun f=>(P.info? f.type).map fun i=>(f.offset,i.size))=some ps∧ ∀(x:τ.den) m υ y o,wY τ x m υ y o→ps[m]? =some (off+o,υ.size)
 | .unit,fs,n,off,h=>by
  simp only[dw]at h
  refine⟨[],?_,fun x m υ y o hf=>by cases hf⟩
  rw[List.drop_of_length_le (by rw[Array.length_toList];omega)];rfl
 | .pair t b,fs,n,off,h=>by
  simp only[dw]at h
  obtain⟨f,hf,ho,ha,hb⟩:=h
  obtain⟨ps,Hl,MD⟩:=dw.places b fs (n+1) (off+t.size) hb
  obtain⟨i,hi,hs,_⟩:=(show gu P t f.type from ha).base
  have dz:n<fs.toList.length:=by rw[Array.length_toList];exact(Array.getElem?_eq_some_iff.1 hf).1
  have hfe:fs.toList[n]=f:=by rw[Array.getElem_toList];exact(Array.getElem?_eq_some_iff.1 hf).2
  refine⟨(off,t.size)::ps,?_,fun x m υ y o wZ=> ?_⟩
  ·rw[List.drop_eq_getElem_cons dz,List.mapM_cons,Hl,hfe,hi]
   simp[ho,hs]
  ·cases wZ with
   |here=>simp
   |there _ h'=>simp[MD _ _ _ _ _ h',Nat.add_assoc]
 | .int _,_,_,_,h| .bool,_,_,_,h| .str,_,_,_,h| .slice _,_,_,_,h| .arr _ _,_,_,_,h=>by simp[dw]at h
theorem gu.places{τ:Ty}{t:TypeId}(h:gu P τ t)(ha:τ.isAgg=true)(hn: ∀n e,τ≠ .arr n e):
  ∃fs ps,P.underlying t=some (.struct fs)∧fs.toList.mapM (fun f=>(P.info? f.type).map fun i=>(f.offset,i.size))=some ps∧ ∀(x:τ.den) m υ y o,wY τ x m υ y o→ps[m]? =some (o,υ.size):=by
 cases τ with
 |unit=>
  simp only[gu,dw]at h
  obtain⟨_,fs,hu,hs⟩:=h
  refine⟨fs,[],hu,?_,fun x m υ y o hf=>by cases hf⟩
  have:fs.toList=[]:=List.eq_nil_of_length_eq_zero (by rw[Array.length_toList];exact hs)
  rw[this];rfl
 |pair t' b=>
  simp only[gu,dw]at h
  obtain⟨_,fs,f,hu,hf,ho,ha',hb⟩:=h
  have hg:dw P (.pair t' b) (.inr (fs,0,0)):=by
   simp only[dw]
   exact⟨f,hf,ho,ha',by simpa using hb⟩
  obtain⟨ps,Hl,MD⟩:=dw.places _ fs 0 0 hg
  exact⟨fs,ps,hu,Hl,fun x m υ y o wZ=>by simpa using MD x m υ y o wZ⟩
 |arr n e=>exact absurd rfl (hn n e)
 |int _=>simp[Ty.isAgg]at ha
 |bool=>simp[Ty.isAgg]at ha
 |str=>simp[Ty.isAgg]at ha
 |slice _=>simp[Ty.isAgg]at ha
theorem tx{ρ:Operand→Value}{t:TypeId}{ps:Array (Nat×Operand)}(ho:o.op= .build t ps){v:Value}(h:(Instr.build t (ps.map fun(i,x)=>(i,ρ x))).run P w= .ok v w):(execOp ρ o).run P w= .ok (.value v) w:=by
 simp[execOp,ho,h]
theorem tz{ρ:Operand→Value}{t:TypeId}{n:Nat}{ps:Array (Nat×Operand)}(ho:o.op= .buildSlice t n ps){v:Value}{w':World}(h:(Instr.buildSlice t n (ps.map fun(i,x)=>(i,ρ x))).run P w= .ok v w'):(execOp ρ o).run P w= .ok (.value v) w':=by
 simp[execOp,ho,h]
theorem VR.Ju{H:Nat→Option aN}{τ:Ty}(ha:τ.isAgg=true){cs:Array Value}{x:τ.den}(h:Rd w M τ cs.toList x):VR w M H ν (.val τ x) (.agg cs):=by
 simp only[VR,V];rw[if_pos ha];exact⟨cs,rfl,h⟩
theorem Co(hE:EnvTy P E)(hc:Core c σ a.tmps w M ν){t:TypeId}{ps:Array (Nat×Operand)}(ho:o.op= .build t ps){K:fk α}{n:Nat}{e:Ty}(ht:E.ty t=some (.arr n e))
  (h:p8 e σ.H n (partsOf σ.ρ ps) (List.replicate n e.zero) [] [] (fun l rd ups=>K (.val (.arr n e) l) rd ups)=some r) (hn:dG c σ a o w M ν K r next):o.wp P a w next Q:=by
 have hl:=hE.ty t _ ht
 obtain⟨e',hu,hle⟩:=hl.arr
 obtain⟨i,hi,hs,hz,_⟩:=hl.base
 obtain⟨ie,hie,hes,_⟩:=hle.base
 have X0:=Rd.arr.1 (Rd.zero w M (.arr n e))
 obtain⟨l',uZ,jP,M',cs',hK,eL,z6,DD,hs',eg,hf⟩:=vY (partsOf σ.ρ ps) (ps.toList.map fun(p:Nat×Operand)=>(p.1,a.eval p.2)) σ.H M (List.replicate n e.zero) (Ty.bZ (.arr n e)).toArray [] [] _ (.refl _) hc.mem (hc.pr ps.toList)
  (by rw[List.length_replicate]) (by rw[List.size_toArray];exact X0.2.1) X0.2.2 rfl h
 refine aJ (tx ho (run_build w t _ cs' ?_)) (hn _ _ _ _ _ _ _ hK eL (VR.Ju rfl (Rd.arr.2 ⟨DD,by rw[Array.length_toList];exact hs',eg⟩)))
 unfold Program.built
 rw[hi,hu]
 simp only[hz,hie,hes,oP]
 exact hf
theorem w9(hE:EnvTy P E)(hc:Core c σ a.tmps w M ν){t:TypeId}{ps:Array (Nat×Operand)}(ho:o.op= .build t ps){K:fk α}{τ:Ty}(ht:E.ty t=some τ)(Wy: ∀n e,τ≠ .arr n e)
  (h:cond τ.isAgg (oL τ σ.H (partsOf σ.ρ ps) τ.zero [] [] (fun l rd ups=>K (P9 E (partsOf σ.ρ ps) τ l) rd ups)) none=some r) (hn:dG c σ a o w M ν K r next):o.wp P a w next Q:=by
 obtain⟨D2,h⟩:=bx h
 have hl:=hE.ty t _ ht
 obtain⟨fs,pl,hu,Hl,Cm⟩:=hl.places D2 Wy
 obtain⟨i,hi,hs,hz,_⟩:=hl.base
 obtain⟨l',uZ,jP,M',cs',hK,eL,z6,eg,hf,HM⟩:=Cl (place:=(pl.toArray[·]?)) (fun x n υ y o hf=>by simpa using Cm x n υ y o hf) (partsOf σ.ρ ps) (ps.toList.map fun(p:Nat×Operand)=>(p.1,a.eval p.2)) σ.H M τ.zero τ.bZ.toArray [] [] _ (.refl _) hc.mem (hc.pr ps.toList)
  (Rd.zero w M τ) rfl h
 have hvr:VR w M' (bP σ.H jP) ν (P9 E (partsOf σ.ρ ps) τ l') (.agg cs'):=by
  unfold P9
  split
  ·rename_i n e og
   cases jj:(partsOf σ.ρ ps).all fun p=> !(Nat.beq p.1 n)
   ·exact VR.Ju D2 eg
   ·have hq:=Jq og
    show VR w M' (bP σ.H jP) ν (.B5 τ l' n) (.agg cs')
    have hv:=VR.Ju (H:=bP σ.H jP) (ν:=ν) D2 eg
    simp only[VR]at hv ⊢
    refine⟨hv,cs',none,rfl,?_⟩
    have hfq:B4 τ n=some (.slice e):=by
     unfold ed at hq
     split at hq
     ·rename_i a ha
      rw[ha]
      have:=of_decide_eq_true hq
      rw[this]
     ·cases hq
    have h2:=HM n _ hfq jj
    have h3:=AY hq
    simp only[bA,Nat.add_zero]at h3
    have h4:=congrArg (fun l=>l[0]?) h2
    simp only[List.getElem?_take,List.getElem?_drop,Nat.add_zero]at h4
    rw[if_pos (show 0<(Ty.slice e).size from Nat.one_pos),if_pos (show 0<(Ty.slice e).size from Nat.one_pos)]at h4
    rw[h4];exact h3
  ·exact VR.Ju D2 eg
 refine aJ (tx ho (run_build w t _ cs' ?_)) (hn _ _ _ _ _ _ _ hK eL hvr)
 unfold Program.built
 rw[hi,hu]
 have hzc:(bE τ τ.bZ).cells=τ.bZ.toArray:=by apply Array.ext';rw[ej]
 simp only[hz,Hl,oP,hzc]
 exact hf
theorem An(hE:EnvTy P E)(hc:Core c σ a.tmps w M ν){t:TypeId}{n:Nat}{ps:Array (Nat×Operand)}(ho:o.op= .buildSlice t n ps){K:fk α}{e:Ty}(ht:E.ty t=some (.slice e)){id:Nat}
  (h:cond (Nat.ble (n*(e.size+1)) 16777216) (mf σ.H id (.own e []) (p8 e σ.H n (partsOf σ.ρ ps) (List.replicate n e.zero) [] [] fun l rd ups=>K (.ref id) (id::rd) (ups++[(id,some (.own e l))]))) none=some r)
  (hn:dG c σ a o w M ν K r next):o.wp P a w next Q:=by
 obtain⟨hb,h⟩:=bx h
 obtain⟨aQ,h⟩:=g9 h
 have hb:=Nat.le_of_ble_eq_true hb
 rw[Nat.mul_add,Nat.mul_one]at hb
 obtain⟨e',hu,hle⟩:=(hE.ty t _ ht).slice
 obtain⟨ie,hie,hes,hz,_⟩:=hle.base
 obtain⟨l',uZ,jP,M',cs',hK,eL,z6,DD,hs',eg,hf⟩:=vY (partsOf σ.ρ ps) (ps.toList.map fun(p:Nat×Operand)=>(p.1,a.eval p.2)) σ.H M (List.replicate n e.zero) (madeCells (bE e e.bZ).cells (n*e.size)) [] [] _ (.refl _) hc.mem (hc.pr ps.toList)
  (by rw[List.length_replicate]) (size_madeCells _ _) (mm.made w M e (Nat.le_refl _)) rfl h
 have XO:bP σ.H jP id=none:=z6.none aQ
 have qg:=eL.trans (Tr.row eL.mem XO e' (e:=e) (cs:=cs') (l:=l') (cap:=n) (by omega) (by simp[maxLen];omega) hs' eg)
 have ct:(Instr.buildSlice t n (ps.map fun(i,x)=>(i,a.eval x))).run P w= .ok (.slice (some ⟨w.heap.size,0,none⟩) n n) (w.alloc (.cells cs' e')):=by
  by_cases h0:n*e.size=0
  ·rw[h0]at hf
   have X1:madeCells (bE e e.bZ).cells 0=(Array.range 0).map fun i:Nat=>(#[]:Array Value)[i%0]! :=by simp[madeCells]
   rw[X1]at hf
   rw[←oP]at hf
   simp[Instr.buildSlice,run_underlying hu,Go.sizeOf,typeInfo,hie,hes,h0,newRow]at hf ⊢
   simp[hf]
  ·refine run_buildSlice w t e' n _ cs' ie _ hu hie hz (by rw[hes];omega) (by rw[hes];exact h0) ?_
   rw[hes,oP]
   exact hf
 refine aJ (tz ho ct) (hn _ _ _ _ _ (fun b=>M' b∨b=w.heap.size) (cg ν id (.slice (some ⟨w.heap.size,0,none⟩) l'.length n)) hK ?_ ?_)
 ·rw[dM];exact qg
 ·simp only[VR]
  exact⟨by rw[dM];show bh _ id _ id≠none;rw[ak];simp,by simp[cg,DD]⟩
end VM
end
section
namespace VM
open Go
variable{P:Program}{E:Env}{o:Oper}{a:Act}{w:World}{M:Nat→Prop}{ν:Nat→Value}{σ:St}{c:Ctx}{α:Type}{r:α}{next:Act→World→Prop}{Q:Exit→Act→World→Prop}
def PL(o:Option Value)(d l:Int):Prop:=(o=none∧l=d)∨ ∃k,o=some (.int k l)
theorem mq(hc:Core c σ a.tmps w M ν){x:Option Operand}{d:Int}{k:Int→Option α}(h:sv (x.map σ.ρ) d k=some r): ∃l,k l=some r∧PL (x.map a.eval) d l:=by
 cases x with
 |none=>exact⟨d,h,.inl ⟨rfl,rfl⟩⟩
 |some x=>
  obtain⟨i,n,hx,h⟩:=ji (h:p6 (σ.ρ x) (fun _ x=>k x)=some r)
  have hv:=hc.ev x
  rw[hx]at hv
  exact⟨n,h,.inr ⟨i,by rw[←hv.int];rfl⟩⟩
theorem pI{s:Bool}{len cap:Nat}{lo hi mx:Option Value}{l h m:Int}(xa:PL lo 0 l)(DE:PL hi len h)(KF:PL mx cap m)(hm:mx.isNone=true∨hi.isSome=true)
  (h0:0≤l) (h1:l≤h) (h2:h≤m) (h3:m≤cap):(Instr.sliceBounds s len cap lo hi mx).run P w= .ok (l.toNat,h.toNat,m.toNat) w:=by
 have hb: ∀(k:IntKind) (i:Int) (y:Nat) cd,0≤i→i≤y→(Instr.sliceBound (.int k i) y cd).run P w= .ok i.toNat w:=by
  intro k i y cd h1 h2
  simp[Instr.sliceBound,asIntOf,h1,h2]
 have gy:((m.toNat:Nat):Int)=m:=by omega
 have hh':((h.toNat:Nat):Int)=h:=by omega
 rcases KF with⟨rfl,rfl⟩|⟨km,rfl⟩
 ·rcases DE with⟨rfl,rfl⟩|⟨kh,rfl⟩
  ·rcases xa with⟨rfl,rfl⟩|⟨kl,rfl⟩
   ·simp[Instr.sliceBounds]
   ·simp[Instr.sliceBounds,hb kl l len _ h0 h1]
  ·rcases xa with⟨rfl,rfl⟩|⟨kl,rfl⟩
   ·simp[Instr.sliceBounds,hb kh h cap _ (by omega) h2]
   ·simp[Instr.sliceBounds,hb kh h cap _ (by omega) h2,hb kl l h.toNat _ h0 (by omega)]
 ·rcases DE with⟨rfl,rfl⟩|⟨kh,rfl⟩
  ·simp at hm
  ·rcases xa with⟨rfl,rfl⟩|⟨kl,rfl⟩
   ·simp[Instr.sliceBounds,hb km m cap _ (by omega) h3,hb kh h m.toNat _ (by omega) (by omega)]
   ·simp[Instr.sliceBounds,hb km m cap _ (by omega) h3,hb kh h m.toNat _ (by omega) (by omega),hb kl l h.toNat _ h0 (by omega)]
theorem Ao{ρ:Operand→Value}{t:TypeId}{x:Operand}{lo hi mx:Option Operand}(ho:o.op= .slice t x lo hi mx){s:ByteArray}{l h:Int}(hu:P.underlying t=some .string)(hx:ρ x= .string s)
  (xa:PL (lo.map ρ) 0 l) (DE:PL (hi.map ρ) s.size h) (KF:mx.isNone=true) (h0:0≤l) (h1:l≤h) (h2:h≤s.size):(execOp ρ o).run P w= .ok (.value (.string (s.extract l.toNat h.toNat))) w:=by
 have hm:mx=none:=by simpa using KF
 subst hm
 have hb:=pI (P:=P) (w:=w) (s:=false) xa DE (.inl ⟨rfl,rfl⟩) (.inl rfl) h0 h1 h2 (Int.le_refl _)
 simp[execOp,ho,hx,Instr.sliceAt,Instr.slice,run_underlying hu,hb]
theorem oQ{ρ:Operand→Value}{t e:TypeId}{x:Operand}{lo hi mx:Option Operand}(ho:o.op= .slice t x lo hi mx){τ:Ty}{ad:Option Addr}{len cap:Nat}{l h m:Int}(hu:P.underlying t=some (.slice e))(hle:gu P τ e)(hx:ρ x= .slice ad len cap)
  (xa:PL (lo.map ρ) 0 l) (DE:PL (hi.map ρ) len h) (KF:PL (mx.map ρ) cap m) (hm:(mx.map ρ).isNone=true∨(hi.map ρ).isSome=true) (h0:0≤l) (h1:l≤h) (h2:h≤m) (h3:m≤cap):
  (execOp ρ o).run P w= .ok (.value (.slice (if m.toNat=l.toNat then ad else ad.map (·.add (l.toNat*τ.size))) (h.toNat-l.toNat) (m.toNat-l.toNat))) w:=by
 have hb:=pI (P:=P) (w:=w) (s:=true) xa DE KF hm h0 h1 h2 h3
 simp[execOp,ho,hx,Instr.sliceAt,Instr.slice,run_underlying hu,hb,bX hle]
theorem vZ{x:Option Operand}(h:iq x=true)(a:Act): ∃k,x.map a.eval=some (.int k 0):=by
 unfold iq at h
 split at h
 ·rename_i k n
  have:n=0:=by simpa using h
  subst this
  exact⟨k,rfl⟩
 ·cases h
theorem Rd.cut{e:Ty}{ad:Option Addr}{len cap:Nat}{x:List e.den}(h:Rd w M (.slice e) [.slice ad len cap] x){l hh m:Int}(h0:0≤l)(h1:l≤hh)(h2:hh≤m)(hl:hh≤x.length):
  Rd w M (.slice e) [.slice (if m.toNat=l.toNat then ad else ad.map (·.add (l.toNat*e.size))) (hh.toNat-l.toNat) (m.toNat-l.toNat)] (List.drop l.toNat (List.take hh.toNat x)):=by
 simp only[Rd,List.cons.injEq,and_true]at h ⊢
 obtain⟨a',jk,hv,hc,hr⟩:=h
 cases hv
 have hlen:List.length (List.drop l.toNat (List.take hh.toNat x))=hh.toNat-l.toNat:=by rw[List.length_drop,List.length_take];omega
 refine⟨_,_,by rw[hlen],by rw[hlen];omega,fun i hi=> ?_⟩
 rw[hlen]at hi
 obtain⟨b,off,ha,hb,hm,cs,ly,gO⟩:=hr (l.toNat+i) (by omega)
 rw[if_neg (by omega)]
 refine⟨b,off+l.toNat*e.size,by rw[ha];simp[Addr.add_lit],hb,hm,cs,?_,?_⟩
 ·rw[show off+l.toNat*e.size+i*e.size=off+(l.toNat+i)*e.size from by rw[Nat.add_mul];omega];exact ly
 ·simp only[List.get_eq_getElem,List.getElem_drop,List.getElem_take]at gO ⊢
  exact gO
theorem VR.emp{H:Nat→Option aN}{v:Value}:VR w M H ν .emp v↔ ∃ad,v= .slice ad 0 0:=by simp[VR]
theorem ML(hE:EnvTy P E)(hc:Core c σ a.tmps w M ν){t:TypeId}{x:Operand}{lo hi mx:Option Operand}(ho:o.op= .slice t x lo hi mx){K:fk α}{τ:Ty}(ht:E.ty t=some τ)
  (h:mh τ (lo.isNone&&iq hi&&iq mx) (σ.ρ x) (lo.map σ.ρ) (hi.map σ.ρ) (mx.map σ.ρ) σ.H K=some r) (hn:dG c σ a o w M ν K r next):o.wp P a w next Q:=by
 have tu:=hE.ty t τ ht
 have hv:=hc.ev x
 have hz0: ∀(e:Ty) (e':TypeId) (ad:Option Addr) (len cap:Nat),P.underlying t=some (.slice e')→gu P e e'→a.eval x= .slice ad len cap→(lo.isNone&&iq hi&&iq mx)=true→
   ∃ad',(execOp a.eval o).run P w= .ok (.value (.slice ad' 0 0)) w:=by
  intro e e' ad len cap hu hle hx hz
  simp only[Bool.and_eq_true]at hz
  obtain⟨⟨h1,h2⟩,h3⟩:=hz
  have h1:lo=none:=by simpa using h1
  subst h1
  obtain⟨k2,h2⟩:=vZ h2 a
  obtain⟨k3,h3⟩:=vZ h3 a
  have:=oQ (P:=P) (w:=w) ho hu hle hx (l:=0) (h:=0) (m:=0) (.inl ⟨rfl,rfl⟩) (.inr ⟨k2,h2⟩) (.inr ⟨k3,h3⟩) (.inr (by rw[h2];rfl)) (by omega) (by omega) (by omega) (by omega)
  exact⟨_,this⟩
 unfold mh at h
 split at h
 ·rename_i s hx
  obtain⟨hm,h⟩:=bx h
  obtain⟨l,h,xa⟩:=mq hc h
  obtain⟨hh,h,DE⟩:=mq hc h
  obtain⟨hk,h⟩:=bx h
  rw[tf]at hk
  obtain⟨h0,h1,h2,h3⟩:=of_decide_eq_true hk
  rw[hx]at hv
  exact aJ (Ao ho tu.str hv.str xa DE (by simpa using hm) h0 h1 h2) (hn _ [] [] _ _ _ _ h (.refl hc.mem) (.mkStr _))
 ·rename_i e hx
  obtain⟨e',hu,hle⟩:=tu.slice
  rw[hx]at hv
  obtain⟨ad,hv⟩:=VR.emp.1 hv
  cases hz:(lo.isNone&&iq hi&&iq mx)
  ·rw[hz]at h
   replace h:cond (mx.map σ.ρ).isNone (sv (lo.map σ.ρ) 0 fun l=>sv (hi.map σ.ρ) 0 fun h=>cond (fB l h 0 0) (K .emp [] []) none) none=some r:=h
   obtain⟨hm,h⟩:=bx h
   obtain⟨l,h,xa⟩:=mq hc h
   obtain⟨hh,h,DE⟩:=mq hc h
   obtain⟨hk,hK⟩:=bx h
   rw[tf]at hk
   obtain⟨h0,h1,h2,h3⟩:=of_decide_eq_true hk
   have gy:mx=none:=by simpa using hm
   subst gy
   have:=oQ (P:=P) (w:=w) ho hu hle hv xa DE (.inl ⟨rfl,rfl⟩) (.inl rfl) h0 h1 (m:=0) (by omega) (by omega)
   refine aJ this (hn _ [] [] _ _ _ _ hK (.refl hc.mem) (VR.emp.2 ?_))
   rw[show hh.toNat-l.toNat=0 from by omega,show(0:Int).toNat-l.toNat=0 from by omega]
   exact⟨_,rfl⟩
  ·rw[hz]at h
   obtain⟨ad',ct⟩:=hz0 e e' ad 0 0 hu hle hv hz
   exact aJ ct (hn _ [] [] _ _ _ _ h (.refl hc.mem) (VR.emp.2 ⟨_,rfl⟩))
 ·rename_i e g7
  obtain⟨e',hu,hle⟩:=tu.slice
  cases hz:(lo.isNone&&iq hi&&iq mx)
  ·rw[hz]at h
   obtain⟨y,rd,ups,M',h,eL,hV,_⟩:=jS (.refl _) hc.mem hv h
   replace h:cond ((mx.map σ.ρ).isNone||(hi.map σ.ρ).isSome) (sv (lo.map σ.ρ) 0 fun l=>sv (hi.map σ.ρ) (List.length y:Int) fun h=>sv (mx.map σ.ρ) (List.length y:Int) fun m=>
    cond (fB l h m (List.length y:Int)) (K (.val (.slice e) (List.drop l.toNat (List.take h.toNat y))) rd ups) none) none=some r:=h
   obtain⟨hm,h⟩:=bx h
   obtain⟨l,h,xa⟩:=mq hc h
   obtain⟨hh,h,DE⟩:=mq hc h
   obtain⟨m,h,KF⟩:=mq hc h
   obtain⟨hk,h⟩:=bx h
   rw[tf]at hk
   obtain⟨h0,h1,h2,h3⟩:=of_decide_eq_true hk
   have hr:=V.slice.1 hV
   have eg:=hr
   simp only[Rd,List.cons.injEq,and_true]at eg
   obtain⟨ad,cap,hx,ac0,_⟩:=eg
   rw[hx]at hr
   have gy:(mx.map a.eval).isNone=true∨(hi.map a.eval).isSome=true:=by
    simp only[Bool.or_eq_true,Option.isNone_map,Option.isSome_map]at hm ⊢;exact hm
   have X2: ∃m',PL (mx.map a.eval) cap m'∧hh≤m'∧m'≤cap:=by
    rcases KF with⟨h9,_⟩|⟨k,h9⟩
    ·exact⟨cap,.inl ⟨h9,rfl⟩,by omega,Int.le_refl _⟩
    ·exact⟨m,.inr ⟨k,h9⟩,h2,by omega⟩
   obtain⟨m',X2,h4,h5⟩:=X2
   have ct:=oQ (P:=P) (w:=w) ho hu hle hx xa DE X2 gy h0 h1 h4 h5
   refine aJ ct (hn _ _ _ _ _ M' _ h eL ?_)
   simp only[VR]
   exact V.slice.2 (hr.cut h0 h1 h4 (by omega))
  ·rw[hz]at h
   obtain⟨y,rd,h,hS⟩:=vU hc.mem hv h
   obtain⟨ad,cap,hx,_⟩:=hS
   obtain⟨ad',ct⟩:=hz0 e e' ad _ cap hu hle hx hz
   exact aJ ct (hn _ _ [] _ _ _ _ h (.refl hc.mem) (VR.emp.2 ⟨_,rfl⟩))
 ·cases h
end VM
end
section
namespace VM
open Go
variable{P:Program}{E:Env}{o:Oper}{a:Act}{w:World}{M:Nat→Prop}{ν:Nat→Value}{σ:St}{c:Ctx}{α:Type}{r:α}{next:Act→World→Prop}{Q:Exit→Act→World→Prop}
theorem nF{t ty e:TypeId}{i:TypeInfo}(ht:P.underlying t=some (.slice e))(hi:P.info? e=some i)(base:Option Addr)(n cap:Nat)(h:n≤cap)(a':Option Addr)(cp:Nat):
  (Builtin.append_ #[t,t] ty #[.slice base n cap,.slice a' 0 cp]).run P w= .ok (.slice base n cap) w:=by
 cases a'<;>cases base<;>simp[Builtin.append_,run_underlying ht,Go.sizeOf,typeInfo,hi,Builtin.lenOf,h,Builtin.firstCells,loadCells,loadCellsFrom,storeCells]
theorem Ee{t ty e te:TypeId}{i:TypeInfo}(ht:P.underlying t=some (.slice e))(hi:P.info? e=some i){b n cap m cp:Nat}{a':Addr}{news:List Value}{cs:Array Value}
  (hg:w.heap[b]? =some (.cells cs te (0,0))) (hs:cs.size=cap*i.size) (hl:news.length=m*i.size) (hn: ∀j u,news[j]? =some u→w.cell? (a'.add j)=some u) (h1: ∀u∈news,u.oneCell'=true) (hr:n+m≤cap):
  (Builtin.append_ #[t,t] ty #[.slice (some ⟨b,0,none⟩) n cap,.slice (some a') m cp]).run P w= .ok (.slice (some ⟨b,0,none⟩) (n+m) cap) (w.setRow b (df cs.toList (n*i.size) news).toArray):=by
 have hf:=run_firstCells_some (P:=P) w i.size m a' m cp news hl hn
 have hm:(n+m)*i.size≤cap*i.size:=Nat.mul_le_mul_right _ hr
 rw[Nat.add_mul]at hm
 have Hi:=run_storeCells_at (P:=P) b (n*i.size) te news 0 cs w hg (by omega) h1
 simp only[Nat.add_zero]at Hi
 simp[Builtin.append_,run_underlying ht,Go.sizeOf,typeInfo,hi,Builtin.lenOf,hr,hf,Addr.add_lit,Hi,df]
theorem eI{args:Array Operand}{t:TypeId}{x y:Operand}{v:Value}{w':World}(ho:o.op= .call {callee:= .builtin .append,args,argTypes:= #[t,t]})(ha:args.toList=[x,y])
  (h:(Builtin.append_ #[t,t] o.type #[a.eval x,a.eval y]).run P w= .ok v w'):(execOp a.eval o).run P w= .ok (.value v) w':=by
 obtain⟨cs,hr⟩:=mj (P:=P) (ρ:=a.eval) ho (w:=w)
 rw[hr]
 have:args.map a.eval= #[a.eval x,a.eval y]:=by apply Array.ext';simp[ha]
 rw[this]
 simp[builtin,h]
theorem yv{H:Nat→Option aN}(hm:Mem c H w M ν){id:Nat}(aQ:H id=none){t ty:TypeId}{e':TypeId}{e:Ty}(hu:P.underlying t=some (.slice e'))(hle:gu P e e')
  {xs ys:List e.den} {olds news:List Value} {base:Option Addr} {cap cp:Nat} {a':Addr} (MM:base=none→xs=[]∧cap=0)
  (xa:olds.length=xs.length*e.size) (hro:mm w M e olds xs) (ho: ∀b,base=some b→ ∀j u,olds[j]? =some u→w.cell? (b.add j)=some u)
  (PM:news.length=ys.length*e.size) (hrn:mm w M e news ys) (hn: ∀j u,news[j]? =some u→w.cell? (a'.add j)=some u)
  (hg:cap<xs.length+ys.length) (hs:xs.length+ys.length<s8):
  ∃v w' M' ν',(Builtin.append_ #[t,t] ty #[.slice base xs.length cap,.slice (some a') ys.length cp]).run P w= .ok v w'∧Tr c H w M ν (bh H id (some (.own e (xs++ys)))) w' M' ν'∧ν' id=v:=by
 obtain⟨i,hi,nE,hz,X3⟩:=hle.base
 have hzs:(bE e e.bZ).cells.size=e.size:=by rw[←Array.length_toList,ej,kj]
 have Wz:xs.length+ys.length≤maxLen:=by simp only[s8,maxLen]at hs ⊢;omega
 have Ef:(xs.length+ys.length)*i.bytes≤140737488355328:=by
  have:(xs.length+ys.length)*i.bytes≤68719476736*2048:=Nat.mul_le_mul (by simp only[s8]at hs;omega) X3
  omega
 have ct: ∃jk rest,(Builtin.append_ #[t,t] ty #[.slice base xs.length cap,.slice (some a') ys.length cp]).run P w= .ok (.slice (some ⟨w.heap.size,0,none⟩) (xs.length+ys.length) jk) (w.drew.alloc (.cells (olds++news++rest).toArray e'))∧
   xs.length+ys.length≤jk∧jk≤maxLen∧rest.length=(jk-(xs.length+ys.length))*e.size:=by
  refine⟨grownCap w (xs.length+ys.length) cap e',(Builtin.zeroCells (bE e e.bZ).cells (grownCap w (xs.length+ys.length) cap e'-(xs.length+ys.length))).toList,?_,grownCap_ge _ _ _ _,grownCap_le_maxLen _ _ _ _ Wz,?_⟩
  ·cases base with
   |none=>
    obtain⟨rfl,rfl⟩:=MM rfl
    have ho0:olds=[]:=List.eq_nil_of_length_eq_zero (by rw[xa];simp)
    subst ho0
    have:=run_append_nil (P:=P) w t ty e' i _ hu hi hz a' ys.length cp news (by rw[PM,nE]) hn (by simpa using hg) (by simp only[s8]at hs;omega) (by simp at Ef;omega)
    simp only[List.length_nil,Nat.zero_add,List.nil_append]
    rw[this]
    congr 2
    apply congrArg (fun z=>Obj.cells z e' (0,0))
    apply Array.ext';simp
   |some b=>
    have:=run_append_grow (P:=P) w t ty e' i _ hu hi hz b xs.length cap olds (by rw[xa,nE]) (ho b rfl) a' ys.length cp news (by rw[PM,nE]) hn hg (by simp only[s8]at hs;omega) (growslice_fits hg Ef)
    rw[this]
    congr 2
    apply congrArg (fun z=>Obj.cells z e' (0,0))
    apply Array.ext';simp
  ·rw[Array.length_toList,size_zeroCells,hzs]
 obtain⟨jk,rest,ct,Cn,X4,ac6⟩:=ct
 have hlen:(xs++ys).length=xs.length+ys.length:=List.length_append
 have hd:=Tr.drew hm
 have hon:(olds++news).length=(xs++ys).length*e.size:=by rw[List.length_append,xa,PM,hlen,Nat.add_mul]
 have HN:=Tr.row hd.mem aQ e' (e:=e) (cs:=(olds++news++rest).toArray) (l:=xs++ys) (cap:=jk) (by rw[hlen];exact Cn) X4
  (by rw[List.size_toArray,List.length_append,hon,ac6,hlen,←Nat.add_mul];congr 1;omega)
  (mm.more ((hro.append xa hrn).bB hd.bB) (by rw[hon];exact Nat.le_refl _))
 refine⟨_,_,_,_,ct,hd.trans HN,?_⟩
 rw[←hlen];simp[cg]
theorem KG(hE:EnvTy P E)(hc:Core c σ a.tmps w M ν){args:Array Operand}{ts:Array TypeId}{t t':TypeId}{x y:Operand}(ho:o.op= .call {callee:= .builtin .append,args,argTypes:=ts})(ha:args.toList=[x,y])(hts:ts.toList=[t,t']){K:fk α}{e:Ty}
  (ht:E.ty t=some (.slice e)) {id:Nat} (h:cond (Nat.beq t t') (mf σ.H id (.own e []) (DU id e (σ.ρ x) (σ.ρ y) σ.H K)) none=some r) (hn:dG c σ a o w M ν K r next):o.wp P a w next Q:=by
 obtain⟨htt,h1⟩:=bx h
 clear h
 have htt:=Nat.eq_of_beq_eq_true htt
 subst htt
 obtain⟨aQ,h⟩:=g9 h1
 clear h1
 have ai7:ts= #[t,t]:=by apply Array.ext';simpa using hts
 subst ai7
 obtain⟨e',hu,hle⟩:=(hE.ty t _ ht).slice
 obtain⟨i,hi,nE,hz,X3⟩:=hle.base
 have Ck:=hc.ev x
 unfold DU at h
 obtain⟨ys,rd,h,hS⟩:=vU hc.mem (hc.ev y) h
 have X5:(ys=[]∧ ∃a' cp,a.eval y= .slice a' 0 cp)∨(ys≠[]∧ ∃a' cp news,a.eval y= .slice (some a') ys.length cp∧news.length=ys.length*e.size∧(∀j u,news[j]? =some u→w.cell? (a'.add j)=some u)∧mm w M e news ys∧ ∀u∈news,u.oneCell'=true):=by
  by_cases hy:ys=[]
  ·left
   obtain⟨a',cp,hv,_⟩:=hS
   exact⟨hy,a',cp,by rw[hv,hy];rfl⟩
  ·right
   obtain⟨b,off,cp,news,hv,hl,ly,gO,h1⟩:=hS.cells hy
   exact⟨hy,⟨b,off,none⟩,cp,news,hv,hl,fun j u hj=>by rw[Addr.add_lit];exact ly j u hj,gO,h1⟩
 split at h
 ·
  rename_i hx
  rw[hx]at Ck
  obtain⟨ad,Ck⟩:=VR.emp.1 Ck
  obtain⟨PN,h⟩:=bx h
  rw[yf]at PN
  have PN:=of_decide_eq_true PN
  rcases X5 with⟨rfl,a',cp,w6⟩|⟨hy,a',cp,news,w6,hl,ly,gO,h1⟩
  ·refine aJ (eI ho ha (by rw[Ck,w6];exact nF hu hi ad 0 0 (Nat.le_refl _) a' cp)) (hn _ _ _ _ _ _ _ h (Tr.nothing hc.mem aQ e ad) ?_)
   simp only[VR]
   exact⟨by show bh _ id _ id≠none;rw[ak];simp,by simp[cg]⟩
  ·have HO:0<ys.length:=List.length_pos_iff.2 hy
   obtain⟨v,w',M',ν',ct,eL,hv⟩:=yv (P:=P) (ty:=o.type) hc.mem aQ hu hle (xs:=[]) (ys:=ys) (olds:=[]) (news:=news) (base:=ad) (cap:=0) (cp:=cp) (a':=a') (fun _=>⟨rfl,rfl⟩) (by simp) (fun i hi=>absurd hi (by simp)) (fun _ _ j u hj=>by simp at hj)
    hl gO ly (by simpa using HO) (by simpa using PN)
   refine aJ (eI ho ha (by rw[Ck,w6];exact ct)) (hn _ _ _ _ _ _ _ h eL ?_)
   simp only[VR]
   exact⟨by show bh _ id _ id≠none;rw[ak];simp,hv.symm⟩
 ·
  rename_i j hx
  rw[hx]at Ck
  simp only[VR]at Ck
  obtain⟨_,Ck⟩:=Ck
  split at h
  ·rename_i e1 l hj
   obtain⟨e2,h⟩:=aX h
   cases e2
   obtain⟨PN,h⟩:=bx h
   rw[yf]at PN
   have PN:l.length+ys.length<s8:=of_decide_eq_true PN
   have g7:id≠j:=fun e=>by rw[e,hj]at aQ;cases aQ
   have kX:bh σ.H j (some .gone) id=none:=by rw[al _ _ g7];exact aQ
   have Hm:=Tr.gone hc.mem j
   have iW:=hc.mem.iJ j _ hj
   simp only[ER]at iW
   rcases iW with⟨rfl,ad,X7⟩|⟨b,cs,te,cap,X7,hg,hM,Md,hl,AW,hs,hr⟩
   ·rw[X7]at Ck
    rcases X5 with⟨rfl,a',cp,w6⟩|⟨hy,a',cp,news,w6,hl,ly,gO,h1⟩
    ·refine aJ (eI ho ha (by rw[Ck,w6];exact nF hu hi ad 0 0 (Nat.le_refl _) a' cp)) (hn _ _ _ _ _ _ _ h (Hm.trans (Tr.nothing Hm.mem kX e ad)) ?_)
     simp only[VR]
     exact⟨by show bh _ id _ id≠none;rw[ak];simp,by simp[cg]⟩
    ·have HO:0<ys.length:=List.length_pos_iff.2 hy
     obtain⟨v,w',M',ν',ct,eL,hv⟩:=yv (P:=P) (ty:=o.type) Hm.mem kX hu hle (xs:=[]) (ys:=ys) (olds:=[]) (news:=news) (base:=ad) (cap:=0) (cp:=cp) (a':=a') (fun _=>⟨rfl,rfl⟩) (by simp) (fun i hi=>absurd hi (by simp)) (fun _ _ j u hj=>by simp at hj)
      hl gO ly (by simpa using HO) (by simpa using PN)
     refine aJ (eI ho ha (by rw[Ck,w6];exact ct)) (hn _ _ _ _ _ _ _ h (Hm.trans eL) ?_)
     simp only[VR]
     exact⟨by show bh _ id _ id≠none;rw[ak];simp,hv.symm⟩
   ·rw[X7]at Ck
    have D6:cs.toList.length=cap*e.size:=by rw[Array.length_toList,hs]
    have HQ:l.length*e.size≤cap*e.size:=Nat.mul_le_mul_right _ hl
    rcases X5 with⟨rfl,a',cp,w6⟩|⟨hy,a',cp,news,w6,PM,ly,gO,h1⟩
    ·refine aJ (eI ho ha (by rw[Ck,w6];exact nF hu hi _ _ cap hl a' cp)) (hn _ _ _ _ _ M (cg ν id (ν j)) h ?_ ?_)
     ·refine Tr.rename hc.mem hj aQ (.inr rfl) ?_
      rw[List.append_nil]
      exact hc.mem.iJ j _ hj
     ·simp only[VR]
      exact⟨by show bh _ id _ id≠none;rw[ak];simp,by simp[cg,X7]⟩
    ·by_cases tA:l.length+ys.length≤cap
     ·have hmul:(l.length+ys.length)*e.size≤cap*e.size:=Nat.mul_le_mul_right _ tA
      rw[Nat.add_mul]at hmul
      have ct:=Ee (P:=P) (ty:=o.type) hu hi (w:=w) (b:=b) (n:=l.length) (cap:=cap) (m:=ys.length) (cp:=cp) (a':=a') (news:=news) (cs:=cs) hg (by rw[hs,nE]) (by rw[PM,nE]) ly h1 tA
      rw[nE]at ct
      have Qf:df cs.toList (l.length*e.size) news=(cs.toList.take (l.length*e.size)++news)++cs.toList.drop (l.length*e.size+news.length):=rfl
      have hold:mm w M e (cs.toList.take (l.length*e.size)) l:=mm.take hr (Nat.le_refl _)
      have htl:(cs.toList.take (l.length*e.size)).length=l.length*e.size:=by rw[List.length_take];omega
      have WA:mm w M e (df cs.toList (l.length*e.size) news) (l++ys):=by
       rw[Qf]
       refine mm.more (hold.append htl gO) ?_
       rw[List.length_append,List.length_append,htl,PM,Nat.add_mul];exact Nat.le_refl _
      have hsl:(df cs.toList (l.length*e.size) news).length=cap*e.size:=by rw[dU (by omega)];exact D6
      have Qn:Tr c σ.H w M ν (bh σ.H j (some (.own e l))) (w.setRow b (df cs.toList (l.length*e.size) news).toArray) M ν:=by
       refine Tr.write (e':= .own e l) hc.mem hj trivial trivial (.refl _) (by rw[X7];simp[dX];omega) hg fun Hh hk u9=> ?_
       simp only[ER]
       refine .inr ⟨b,_,te,cap,X7,setRow_heap w b cs _ te _ hg,u9,Md,hl,AW,by rw[List.size_toArray];exact hsl,fun k Al=> ?_⟩
       have:=(WA k (by rw[List.length_append];omega)).bB hk
       rw[List.getElem_append_left Al]at this
       exact this
      rw[u6 hj]at Qn
      have qg:Tr c σ.H (w.setRow b (df cs.toList (l.length*e.size) news).toArray) M ν (bh (bh σ.H j (some .gone)) id (some (.own e (l++ys)))) (w.setRow b (df cs.toList (l.length*e.size) news).toArray) M (cg ν id (.slice (some ⟨b,0,none⟩) (l++ys).length cap)):=by
       refine Tr.rename Qn.mem hj aQ (.inr (by rw[X7];simp[dX])) ?_
       simp only[ER]
       refine .inr ⟨b,_,te,cap,rfl,setRow_heap w b cs _ te _ hg,hM,Md,by rw[List.length_append];exact tA,AW,by rw[List.size_toArray];exact hsl,(WA.bB Qn.bB)⟩
      refine aJ (eI ho ha (by rw[Ck,w6];exact ct)) (hn _ _ _ _ _ _ _ h (Qn.trans qg) ?_)
      simp only[VR]
      exact⟨by show bh _ id _ id≠none;rw[ak];simp,by simp[cg]⟩
     ·obtain⟨v,w',M',ν',ct,eL,hv⟩:=yv (P:=P) (ty:=o.type) Hm.mem kX hu hle (xs:=l) (ys:=ys) (olds:=cs.toList.take (l.length*e.size)) (news:=news) (base:=some ⟨b,0,none⟩) (cap:=cap) (cp:=cp) (a':=a') (fun h=>by cases h)
       (by rw[List.length_take];omega) (mm.take hr (Nat.le_refl _)) (fun b' dq k u hk=>by
        cases dq
        rw[Addr.add_lit,cell_of hg]
        rw[List.getElem?_take]at hk
        split at hk
        ·rw[←Array.getElem?_toList];simpa using hk
        ·cases hk)
       PM gO ly (by omega) PN
      refine aJ (eI ho ha (by rw[Ck,w6];exact ct)) (hn _ _ _ _ _ _ _ h (Hm.trans eL) ?_)
      simp only[VR]
      exact⟨by show bh _ id _ id≠none;rw[ak];simp,hv.symm⟩
  ·cases h
 ·cases h
end VM
end
section
namespace VM
open Go
variable{P:Program}{E:Env}{o:Oper}{a:Act}{w:World}{M:Nat→Prop}{ν:Nat→Value}{σ:St}{c:Ctx}{α:Type}{r:α}{next:Act→World→Prop}{Q:Exit→Act→World→Prop}
def p3:{m:AM}→{ms:List AM}→HP (m::ms)→m.den
 |_,[],x=>x
 |_,_::_,x=>x.1
def uT:{m:AM}→{ms:List AM}→HP (m::ms)→HP ms
 |_,[],_=>()
 |_,_::_,x=>x.2
def AM.fD:AM→Bool
 | .io _=>true
 |_=>false
def AM.Qo:AM→Bool
 | .fn _ _| .fA _=>true
 |_=>false
def A1(w:World)(M:Nat→Prop):(m:AM)→m.den→Value→Prop
 | .v τ,x,v=>V w M τ v x
 | .own e,x,v=>ER w M v (.own e x)
 | .io τ,x,v=>ER w M v (.obj τ x)
 | .fn f τ,x,v=>VR w M (fun _=>none) (fun _=>undef) (.DQ f (lh τ x)) v
 | .ptr τ,x,v=>ER w M v (.obj τ x)
 | .fA τ,x,v=>VR w M (fun _=>none) (fun _=>undef) (.me τ x) v
def fN(w:World)(M:Nat→Prop):(ms:List AM)→HP ms→List Value→Prop
 |[],_,vs=>vs=[]
 |_::ms,x,vs=> ∃v DF,vs=v::DF∧A1 w M _ (p3 x) v∧fN w M ms (uT x) DF
def cm:AM→Value→List Nat
 | .own _,v| .io _,v| .ptr _,v=>(dX v).toList
 |_,_=>[]
def cA:List AM→List Value→List Nat
 |m::ms,v::vs=>cm m v++cA ms vs
 |_,_=>[]
def dm:List AM→List Value→List Value
 |m::ms,v::vs=>if m.fD then v::dm ms vs else dm ms vs
 |_,_=>[]
def kA:List AM→List Ty
 | .io τ::ms=>τ::kA ms
 |_::ms=>kA ms
 |[]=>[]
def RR(w:World)(M:Nat→Prop):(ms:List AM)→HP ms→List Value→List Value→Prop
 |[],_,vs,ps=>vs=[]∧ps=[]
 |m::ms,x,vs,ps=>(∃p Ap,m.fD=true∧ps=p::Ap∧A1 w M m (p3 x) p∧RR w M ms (uT x) vs Ap)∨
  (∃v DF,m.fD=false∧m.Qo=false∧vs=v::DF∧A1 w M m (p3 x) v∧RR w M ms (uT x) DF ps)
def aZ:List AM→List Value→List Value→List Nat
 |[],_,_=>[]
 |m::ms,vs,ps=>if m.fD then cm m (ps.headD undef)++aZ ms vs ps.tail else cm m (vs.headD undef)++aZ ms vs.tail ps
def Ty.flat:Ty→Bool
 | .slice _=>false
 | .pair a b=>a.flat&&b.flat
 | .arr _ e=>e.flat
 |_=>true
def AM.flat:AM→Bool
 | .v τ| .io τ| .own τ| .ptr τ=>τ.flat
 | .fn _ _| .fA _=>false
def qm(vs:List Value):Value:=if h:vs.length=1 then vs[0]else .tuple vs.toArray
structure Left(w:World)(M0:Nat→Prop)(hs:List Nat)(w':World)(M':Nat→Prop):Prop where
 sub: ∀b,M0 b→M' b
 yi: ∀b,M' b→b<w'.heap.size
 less: ∀b,b<w.heap.size→M' b→M0 b∨b∈hs
 frame: ∀b,b<w.heap.size→b∉hs→w'.heap[b]? =w.heap[b]?
 size:w.heap.size≤w'.heap.size
 os:w'.os=w.os
 tape:w'.tape=w.tape
 output:w'.output=w.output
def Eg(P:Program)(f:FuncId)(args:Array Value)(w:World)(R:Value→World→Prop):Prop:=
 ∀(o:Oper) (a:Act) (next:Act→World→Prop) (Q:Exit→Act→World→Prop),(∀v w',R v w'→next (a.put o.dst v) w')→o.upon P a next Q ((callFunc f args).run P w)
theorem Eg.mono{f:FuncId}{args:Array Value}{R R':Value→World→Prop}(h:Eg P f args w R)(hr: ∀v w',R v w'→R' v w'):Eg P f args w R':=
 fun o a next Q hn=>h o a next Q fun v w' hv=>hn v w' (hr v w' hv)
theorem nU{f:FuncId}{fn:Func}{args:Array Value}{R:Value→World→Prop}(hf:P.funcs[f]? =some fn)(hn:(fn.name== "runtime.NumGoroutine")=false)(hb:fn.body.isNone=false)
  (h:Calls P f args w fun e w'=> ∃v,e= .returned v∧R v w'):Eg P f args w R:=by
 intro o a next Q se
 have hn': ¬fn.name= "runtime.NumGoroutine" :=by simpa using hn
 have dq: ¬fn.body=none:=fun e=>by rw[e]at hb;cases hb
 have:(callFunc f args).run P w= .ok (.enter f args) w:=by simp[callFunc,hf,hn',dq]
 rw[this,Oper.upon_enter]
 refine Calls.mono h ?_
 rintro e w' ⟨v,rfl,hR⟩
 exact se v w' hR
theorem Aq{f:FuncId}{args:Array Value}{R:Value→World→Prop}{v:Value}{w':World}(h:(callFunc f args).run P w= .ok (.value v) w')(hR:R v w'):Eg P f args w R:=by
 intro o a next Q se
 rw[h,Oper.upon_value]
 exact se v w' hR
structure eM(P:Program)(f:FuncId)(S:g6):Prop where
 quiet:S.quiet=true→S.res.all AM.flat=true
 ios:kA S.args=kA S.res
 call: ∀(M0:Nat→Prop) (w:World) (vs:List Value) (x:HP S.args) (y:HP S.res),(∀b,M0 b→b<w.heap.size)→
  fN w (fun b=>M0 b∨b∈cA S.args vs) S.args x vs→(cA S.args vs).Nodup→(∀b∈cA S.args vs,¬M0 b)→S.run x=some y→
  Eg P f vs.toArray w fun v w'=> ∃us M',v=qm us∧RR w' M' S.res y us (dm S.args vs)∧Left w M0 (cA S.args vs) w' M'∧
   (aZ S.res us (dm S.args vs)).Nodup∧ ∀b∈aZ S.res us (dm S.args vs),¬M0 b
theorem Rd.flat{w:World}{M M':Nat→Prop}: ∀{τ:Ty} {cs:List Value} {x:τ.den},τ.flat=true→Rd w M τ cs x→Rd w M' τ cs x
 | .int _,_,_,_,h| .bool,_,_,_,h| .str,_,_,_,h| .unit,_,_,_,h=>h
 | .slice _,_,_,hf,_=>by simp[Ty.flat]at hf
 | .pair a b,_,_,hf,h=>by
  simp only[Ty.flat,Bool.and_eq_true]at hf
  simp only[Rd]at h ⊢
  obtain⟨c1,c2,rfl,h1,h2⟩:=h
  exact⟨c1,c2,rfl,h1.flat hf.1,h2.flat hf.2⟩
 | .arr n e,_,x,hf,h=>by
  simp only[Ty.flat]at hf
  simp only[Rd]at h ⊢
  obtain⟨hn,Kv,hc,rfl,hr⟩:=h
  exact⟨hn,Kv,hc,rfl,fun i hi iA=>(hr i hi iA).flat hf⟩
theorem A1.flat{w:World}{M M':Nat→Prop}(hM: ∀b,M b→M' b){m:AM}{x:m.den}{v:Value}(hf:m.flat=true)(h:A1 w M m x v):A1 w M' m x v:=by
 cases m with
 |v τ=>
  simp only[A1,V,AM.flat]at h hf ⊢
  split
  ·rename_i ha;rw[if_pos ha]at h;obtain⟨cs,h1,h⟩:=h;exact⟨cs,h1,h.flat hf⟩
  ·rename_i ha;rw[if_neg ha]at h;exact h.flat hf
 |own e=>
  simp only[A1,ER,AM.flat]at h hf ⊢
  rcases h with h|⟨b,cs,t,cap,h1,h2,h3,h4,h5,h6,h7,h8⟩
  ·exact .inl h
  ·exact .inr ⟨b,cs,t,cap,h1,h2,hM b h3,h4,h5,h6,h7,fun i hi=>(h8 i hi).flat hf⟩
 |io τ=>
  simp only[A1,ER,AM.flat]at h hf ⊢
  obtain⟨b,cs,t,h1,h2,h3,h4⟩:=h
  exact⟨b,cs,t,h1,h2,hM b h3,h4.flat hf⟩
 |fn f τ=>simp[AM.flat]at hf
 |fA τ=>simp[AM.flat]at hf
 |ptr τ=>
  simp only[A1,ER,AM.flat]at h hf ⊢
  obtain⟨b,cs,t,h1,h2,h3,h4⟩:=h
  exact⟨b,cs,t,h1,h2,hM b h3,h4.flat hf⟩
theorem RR.flat{w:World}{M M':Nat→Prop}(hM: ∀b,M b→M' b): ∀{ms:List AM} {x:HP ms} {vs ps:List Value},ms.all AM.flat=true→RR w M ms x vs ps→RR w M' ms x vs ps
 |[],_,_,_,_,h=>h
 |m::ms,x,vs,ps,hf,h=>by
  simp only[List.all_cons,Bool.and_eq_true]at hf
  simp only[RR]at h ⊢
  rcases h with⟨p,Ap,h1,h2,h3,h4⟩|⟨v,DF,h1,h2,h3,h4,h5⟩
  ·exact .inl ⟨p,Ap,h1,h2,h3.flat hM hf.1,RR.flat hM hf.2 h4⟩
  ·exact .inr ⟨v,DF,h1,h2,h3,h4.flat hM hf.1,RR.flat hM hf.2 h5⟩
theorem A1.qn{w w':World}{M M':Nat→Prop}(k:dd w M w' M'){m:AM}{x:m.den}{v:Value}(hm: ∀b∈cm m v,w'.heap[b]? =w.heap[b]? ∧M' b)(h:A1 w M m x v):A1 w' M' m x v:=by
 cases m with
 |v τ=>exact V.bB k h
 |own e=>
  simp only[A1]at h ⊢
  exact ER.bB k (fun _ b hb=>hm b (by simp[cm,hb])) h
 |io τ=>
  simp only[A1]at h ⊢
  exact ER.bB k (fun _ b hb=>hm b (by simp[cm,hb])) h
 |fn f τ=>exact VR.bB k (.refl _ _) h
 |fA τ=>exact VR.bB k (.refl _ _) h
 |ptr τ=>
  simp only[A1]at h ⊢
  exact ER.bB k (fun _ b hb=>hm b (by simp[cm,hb])) h
theorem fN.qn{w w':World}{M M':Nat→Prop}(k:dd w M w' M'): ∀{ms:List AM} {x:HP ms} {vs:List Value},(∀b∈cA ms vs,w'.heap[b]? =w.heap[b]? ∧M' b)→fN w M ms x vs→fN w' M' ms x vs
 |[],_,_,_,h=>h
 |m::ms,x,vs,hm,h=>by
  simp only[fN]at h ⊢
  obtain⟨v,DF,rfl,h1,h2⟩:=h
  exact⟨v,DF,rfl,h1.qn k (fun b hb=>hm b (by simp[cA,hb])),fN.qn k (fun b hb=>hm b (by simp[cA,hb])) h2⟩
theorem RR.qn{w w':World}{M M':Nat→Prop}(k:dd w M w' M'): ∀{ms:List AM} {x:HP ms} {us ps:List Value},(∀b∈aZ ms us ps,w'.heap[b]? =w.heap[b]? ∧M' b)→RR w M ms x us ps→RR w' M' ms x us ps
 |[],_,_,_,_,h=>h
 |m::ms,x,us,ps,hm,h=>by
  simp only[RR]at h ⊢
  rcases h with⟨p,Ap,h1,rfl,h2,h3⟩|⟨v,Cp,h1,h2,rfl,h3,h4⟩
  ·simp only[aZ,h1,if_true,List.headD_cons,List.tail_cons,List.mem_append]at hm
   exact .inl ⟨p,Ap,h1,rfl,h2.qn k (fun b hb=>hm b (.inl hb)),RR.qn k (fun b hb=>hm b (.inr hb)) h3⟩
  ·simp only[aZ,h1,Bool.false_eq_true,if_false,List.headD_cons,List.tail_cons,List.mem_append]at hm
   exact .inr ⟨v,Cp,h1,h2,rfl,h3.qn k (fun b hb=>hm b (.inl hb)),RR.qn k (fun b hb=>hm b (.inr hb)) h4⟩
theorem xJ{H:Nat→Option aN}(hm:Mem c H w M ν){a:aV}{v:Value}(hv:VR w M H ν a v){τ:Ty}{k:τ.den→List Nat→fj→Option α}{r:α}(h:ix true a H τ k=some r):
  ∃y rd ups,k y rd ups=some r∧((ups=[]∧V w M τ v y)∨ ∃id e l,ups=[(id,some (.kg e l))]∧H id=some (.own e l)∧
   ∀M',(∀b,M' b↔(M b∧dX (ν id)≠some b))→V w M' τ v y):=by
 unfold ix at h
 split at h
 ·obtain⟨e,h⟩:=aX h
  subst e
  simp only[VR]at hv
  exact⟨_,[],[],h,.inl ⟨rfl,hv⟩⟩
 ·obtain⟨e,h⟩:=aX h
  subst e
  simp only[VR]at hv
  exact⟨_,[],[],h,.inl ⟨rfl,hv.1⟩⟩
 ·split at h
  ·rename_i e k' _
   simp only[VR]at hv
   obtain⟨a,rfl⟩:=hv
   refine⟨[],[],[],h,.inl ⟨rfl,V.slice.2 ?_⟩⟩
   simp only[Rd]
   exact⟨a,0,rfl,Nat.le_refl _,fun i hi=>absurd hi (by simp)⟩
  ·cases h
 ·rename_i id
  simp only[VR]at hv
  obtain⟨_,rfl⟩:=hv
  split at h
  ·rename_i e l aQ
   obtain⟨e',h⟩:=aX h
   subst e'
   refine⟨_,_,_,h,.inr ⟨id,e,l,rfl,aQ,fun M' hM'=> ?_⟩⟩
   obtain⟨M2,_,hV,Cg⟩:=Tr.freeze hm aQ
   have:M'=M2:=by funext b;exact propext ((hM' b).trans (Cg b).symm)
   rw[this];exact hV
  ·rename_i e l aQ
   obtain⟨e',h⟩:=aX h
   subst e'
   have:=hm.iJ id _ aQ
   simp only[ER]at this
   exact⟨_,_,_,h,.inl ⟨rfl,V.slice.2 this.1⟩⟩
  ·cases h
 ·cases h
theorem MN{H:Nat→Option aN}(hm:Mem c H w M ν): ∀{a:Ty} {x:aV} {v:Value} {k:a.den→List Nat→fj→Option α} {r:α},VR w M H ν x v→vP x H a k=some r→
  ∃y rd ups,k y rd ups=some r∧(ups=[]→VR w M (fun _=>none) (fun _=>undef) (vQ a y) v):=by
 intro a x v k r hv h
 unfold vP at h
 split at h
 ·rename_i a k
  split at h
  ·rename_i υ z
   obtain⟨e1,h⟩:=aX h
   subst e1
   refine⟨_,_,_,h,fun _=> ?_⟩
   simp only[vQ,VR]at hv ⊢
   exact hv
  ·cases h
 ·rename_i k0 pZ
  obtain⟨y,rd,ups,h,hy⟩:=xJ hm hv h
  refine⟨y,rd,ups,h,fun hu=> ?_⟩
  rcases hy with⟨_,hy⟩|⟨_,_,_,h3,_⟩
  ·have:vQ _ y= .val _ y:=by
    unfold vQ
    split
    ·exact(pZ _ _ rfl HEq.rfl).elim
    ·rfl
   rw[this]
   simp only[VR];exact hy
  ·rw[hu]at h3;cases h3
theorem yw{H:Nat→Option aN}(hm:Mem c H w M ν): ∀{τ:Ty} {lx:List aV} {vs:List Value} {k:τ.den→List Nat→fj→Option α} {r:α},fC w M H ν lx vs→mg H τ lx k=some r→
  ∃x rd ups,k x rd ups=some r∧(ups=[]→fC w M (fun _=>none) (fun _=>undef) (lh τ x) vs)
 | .unit,[],[],k,r,_,h=>⟨(),[],[],h,fun _=>by simp[lh,fC]⟩
 | .pair a b,x::xs,v::vs,k,r,hv,h=>by
  simp only[fC]at hv
  unfold mg at h
  obtain⟨y,rd,ups,h,hy⟩:=MN hm hv.1 h
  obtain⟨ys,uZ,jP,h,hys⟩:=yw hm hv.2 h
  refine⟨(y,ys),_,_,h,fun hu=> ?_⟩
  have h1:ups=[]:=(List.append_eq_nil_iff.1 hu).1
  have h2:jP=[]:=(List.append_eq_nil_iff.1 hu).2
  simp only[lh,fC]
  exact⟨hy h1,hys h2⟩
 | .unit,[],_::_,_,_,hv,_=>by simp[fC]at hv
 |_,_::_,[],_,_,hv,_=>by simp[fC]at hv
 | .unit,_::_,_,_,_,_,h=>by simp[mg]at h
 | .pair _ _,[],_,_,_,_,h=>by simp[mg]at h
 | .int _,_,_,_,_,_,h| .bool,_,_,_,_,_,h| .str,_,_,_,_,_,h| .slice _,_,_,_,_,_,h| .arr _ _,_,_,_,_,_,h=>by simp[mg]at h
end VM
end
section
namespace VM
open Go
variable{P:Program}{E:Env}{o:Oper}{a:Act}{w:World}{M:Nat→Prop}{ν:Nat→Value}{σ:St}{c:Ctx}{α:Type}{r:α}{next:Act→World→Prop}{Q:Exit→Act→World→Prop}
def keys{β:Type}(l:List (Nat×β)):List Nat:=l.map (·.1)
theorem jl{i:Nat}: ∀{ups:fj} {H:Nat→Option aN},i∉keys ups→bP H ups i=H i
 |[],_,_=>rfl
 |u::r,H,h=>by
  simp only[keys,List.map_cons,List.mem_cons,not_or]at h
  show bP (bh H u.1 u.2) r i=_
  rw[jl h.2,al _ _ h.1]
theorem tD(u:Nat×Option aN)(b:fj)(hb:u.1∉keys b): ∀(a:fj) (H:Nat→Option aN),bP H (a++u::b)=bh (bP H (a++b)) u.1 u.2
 |[],H=>by
  show bP (bh H u.1 u.2) b=bh (bP H b) u.1 u.2
  induction b generalizing H with
  |nil=>rfl
  |cons v b ih=>
   simp only[keys,List.map_cons,List.mem_cons,not_or]at hb
   show bP (bh (bh H u.1 u.2) v.1 v.2) b=bh (bP (bh H v.1 v.2) b) u.1 u.2
   rw[←ih hb.2]
   congr 1
   funext i
   by_cases h1:i=v.1
   ·subst h1;rw[ak,al _ _ (Ne.symm hb.1),ak]
   ·by_cases h2:i=u.1
    ·subst h2;rw[al _ _ h1,ak,ak]
    ·rw[al _ _ h1,al _ _ h2,al _ _ h2,al _ _ h1]
 |v::a,H=>tD u b hb a (bh H v.1 v.2)
structure hO(c:Ctx)(w:World)(M:Nat→Prop)(ν:Nat→Value)(H0 H1 Hq:Nat→Option aN)(M1:Nat→Prop)(uo uf:fj)(io:List (Nat×Ty))(hs:List Nat):Prop where
 mem:Mem c H1 w M1 ν
 KH:Mem c Hq w M ν
 bB:dd w M w M1
 ext: ∀i,i∉keys io→bP H0 (uo++uf) i=H1 i
 Qp: ∀i,i∉keys io→bP H0 uo i=Hq i
 PO: ∀q∈io,H1 q.1=some .gone∧Hq q.1=some .gone∧ ∃x,H0 q.1=some (.obj q.2 x)
 ion:(keys io).Nodup
 ks: ∀i∈keys (uo++uf),∀e l,H1 i≠some (.own e l)
 ksn: ∀i∈keys (uo++uf),i∉keys io∧ ∃e l,H0 i=some (.own e l)
 fz:Fz Hq H1
 uov: ∀u∈uo,u.2=some .gone
 ufv: ∀u∈uf,∃e l,u.2=some (.kg e l)∧H0 u.1=some (.own e l)
 nd:hs.Nodup
 hM: ∀b∈hs,M1 b
 HR: ∀b∈hs,c.B≤b∨c.may b
 none: ∀b∈hs,∀i e,Hq i=some e→e.mut→dX (ν i)≠some b
 iob: ∀b∈hs,c.M0 b→ ∃q∈io,dX (ν q.1)=some b
 same: ∀i,i∉keys (uo++uf)→i∉keys io→H1 i=H0 i
theorem hO.start{H:Nat→Option aN}(hm:Mem c H w M ν):hO c w M ν H H H M [] [] [] []:=
 ⟨hm,hm,.refl w M,fun _ _=>rfl,fun _ _=>rfl,fun q hq=>by simp at hq,by simp[keys],fun i hi=>by simp[keys]at hi,fun i hi=>by simp[keys]at hi,.refl H,fun u hu=>by simp at hu,fun u hu=>by simp at hu,by simp,fun b hb=>by simp at hb,fun b hb=>by simp at hb,fun b hb=>by simp at hb,fun b hb=>by simp at hb,fun _ _ _=>rfl⟩
theorem Fz.X8{H H1:Nat→Option aN}(h:Fz H H1){i:Nat}{e:Ty}{l:List e.den}(hi:H1 i=some (.own e l)):H i=some (.own e l):=by
 rcases h i with h'|⟨e',l',_,h'⟩
 ·rw[←h',hi]
 ·rw[hi]at h';cases h'
theorem Fz.adb{H H1:Nat→Option aN}(h:Fz H H1){i:Nat}{e:Ty}{l:e.den}(hi:H1 i=some (.obj e l)):H i=some (.obj e l):=by
 rcases h i with h'|⟨e',l',_,h'⟩
 ·rw[←h',hi]
 ·rw[hi]at h';cases h'
theorem Fz.mut{H H1:Nat→Option aN}(h:Fz H H1){i:Nat}{e:aN}(hi:H1 i=some e)(hm:e.mut):H i=some e:=by
 cases e with
 |obj=>exact h.adb hi
 |dK=>
  rcases h i with h'|⟨e',l',_,h'⟩
  ·rw[←h',hi]
  ·rw[hi]at h';cases h'
 |own=>exact h.X8 hi
 |kg=>simp[aN.mut]at hm
 |gone=>simp[aN.mut]at hm
theorem hO.freeze{H0 H1 Hq:Nat→Option aN}{M1:Nat→Prop}{uo uf:fj}{io:List (Nat×Ty)}{hs:List Nat}(h:hO c w M ν H0 H1 Hq M1 uo uf io hs){id:Nat}{e:Ty}{l:List e.den}(aQ:H1 id=some (.own e l)):
  ∃M2,hO c w M ν H0 (bh H1 id (some (.kg e l))) Hq M2 uo ((id,some (.kg e l))::uf) io hs∧dd w M1 w M2∧(∀b,M2 b↔(M1 b∧dX (ν id)≠some b)):=by
 obtain⟨M2,eL,_,Cg⟩:=Tr.freeze h.mem aQ
 have ra:id∉keys io:=fun hk=>by
  obtain⟨q,hq,rfl⟩:=List.mem_map.1 hk
  have:=(h.PO q hq).1
  rw[aQ]at this;cases this
 have Qq:id∉keys (uo++uf):=fun hk=>h.ks id hk e l aQ
 have X9:id∉keys uf:=fun hk=>Qq (by simp only[keys,List.map_append,List.mem_append];exact .inr hk)
 have h0:H0 id=some (.own e l):=by rw[←h.same id Qq ra];exact aQ
 have hq:Hq id=some (.own e l):=h.fz.X8 aQ
 have lA: ∀i,i∈keys (uo++(id,some (aN.kg e l))::uf)↔i=id∨i∈keys (uo++uf):=by
  intro i
  simp only[keys,List.map_append,List.map_cons,List.mem_append,List.mem_cons]
  constructor
  ·rintro(h|h|h)
   ·exact .inr (.inl h)
   ·exact .inl h
   ·exact .inr (.inr h)
  ·rintro(h|h|h)
   ·exact .inr (.inl h)
   ·exact .inl h
   ·exact .inr (.inr h)
 refine⟨M2,⟨eL.mem,h.KH,h.bB.trans eL.bB,fun i hi=> ?_,h.Qp,fun q pV=> ?_,h.ion,fun i hi e' l'=> ?_,fun i hi=> ?_,fun i=> ?_,h.uov,fun u hu=> ?_,h.nd,fun b hb=> ?_,h.HR,h.none,h.iob,fun i hi iA=> ?_⟩,eL.bB,Cg⟩
 ·rw[tD _ _ X9]
  by_cases bo:i=id
  ·subst bo;rw[ak,ak]
  ·rw[al _ _ bo,al _ _ bo];exact h.ext i hi
 ·obtain⟨h1,h2,h3⟩:=h.PO q pV
  have g7:q.1≠id:=fun e=>ra (e▸List.mem_map_of_mem pV)
  exact⟨by rw[al _ _ g7];exact h1,h2,h3⟩
 ·by_cases bo:i=id
  ·subst bo;rw[ak];intro h';cases h'
  ·rw[al _ _ bo]
   exact h.ks i (((lA i).1 hi).resolve_left bo) e' l'
 ·rcases(lA i).1 hi with rfl|hi
  ·exact⟨ra,e,l,h0⟩
  ·exact h.ksn i hi
 ·by_cases bo:i=id
  ·subst bo;exact .inr ⟨e,l,hq,ak _ _ _⟩
  ·rw[al _ _ bo];exact h.fz i
 ·rcases List.mem_cons.1 hu with rfl|hu
  ·exact⟨e,l,rfl,h0⟩
  ·exact h.ufv u hu
 ·exact(Cg b).2 ⟨h.hM b hb,fun dq=>h.none b hb id _ hq trivial dq⟩
 ·have g7:i≠id:=fun e=>hi ((lA i).2 (.inl e))
  rw[al _ _ g7]
  exact h.same i (fun h'=>hi ((lA i).2 (.inr h'))) iA
theorem hO.hand{H0 H1 Hq:Nat→Option aN}{M1:Nat→Prop}{uo uf:fj}{io:List (Nat×Ty)}{hs:List Nat}(h:hO c w M ν H0 H1 Hq M1 uo uf io hs){id:Nat}{e:Ty}{l:List e.den}(aQ:H1 id=some (.own e l)):
  hO c w M ν H0 (bh H1 id (some .gone)) (bh Hq id (some .gone)) M1 ((id,some .gone)::uo) uf io (hs++(dX (ν id)).toList):=by
 have ra:id∉keys io:=fun hk=>by
  obtain⟨q,hq,rfl⟩:=List.mem_map.1 hk
  have:=(h.PO q hq).1
  rw[aQ]at this;cases this
 have Qq:id∉keys (uo++uf):=fun hk=>h.ks id hk e l aQ
 have X9:id∉keys uo:=fun hk=>Qq (by simp only[keys,List.map_append,List.mem_append];exact .inl hk)
 have h0:H0 id=some (.own e l):=by rw[←h.same id Qq ra];exact aQ
 have hq:Hq id=some (.own e l):=h.fz.X8 aQ
 have lA: ∀i,i∈keys ((id,some aN.gone)::uo++uf)↔i=id∨i∈keys (uo++uf):=by
  intro i
  simp only[keys,List.map_append,List.map_cons,List.cons_append,List.mem_append,List.mem_cons]
 have w5: ∀b,dX (ν id)=some b→b∉hs:=fun b hb dq=>h.none b dq id _ hq trivial hb
 refine⟨(Tr.gone h.mem id).mem,(Tr.gone h.KH id).mem,h.bB,fun i hi=> ?_,fun i hi=> ?_,fun q pV=> ?_,h.ion,fun i hi e' l'=> ?_,fun i hi=> ?_,fun i=> ?_,fun u hu=> ?_,h.ufv,?_,fun b hb=> ?_,fun b hb=> ?_,fun b hb i e' hi hm=> ?_,fun b hb hb0=> ?_,fun i hi iA=> ?_⟩
 ·have:=tD (id,some .gone) (uo++uf) Qq [] H0
  simp only[List.nil_append]at this
  rw[List.cons_append,this]
  by_cases bo:i=id
  ·subst bo;rw[ak,ak]
  ·rw[al _ _ bo,al _ _ bo];exact h.ext i hi
 ·have:=tD (id,some .gone) uo X9 [] H0
  simp only[List.nil_append]at this
  rw[this]
  by_cases bo:i=id
  ·subst bo;rw[ak,ak]
  ·rw[al _ _ bo,al _ _ bo];exact h.Qp i hi
 ·obtain⟨h1,h2,h3⟩:=h.PO q pV
  have g7:q.1≠id:=fun e=>ra (e▸List.mem_map_of_mem pV)
  exact⟨by rw[al _ _ g7];exact h1,by rw[al _ _ g7];exact h2,h3⟩
 ·by_cases bo:i=id
  ·subst bo;rw[ak];intro h';cases h'
  ·rw[al _ _ bo]
   exact h.ks i (((lA i).1 hi).resolve_left bo) e' l'
 ·rcases(lA i).1 hi with rfl|hi
  ·exact⟨ra,e,l,h0⟩
  ·exact h.ksn i hi
 ·by_cases bo:i=id
  ·subst bo;left;rw[ak,ak]
  ·rw[al _ _ bo,al _ _ bo];exact h.fz i
 ·rcases List.mem_cons.1 hu with rfl|hu
  ·rfl
  ·exact h.uov u hu
 ·refine List.nodup_append.2 ⟨h.nd,?_,fun x hx y hy=> ?_⟩
  ·cases dX (ν id)<;>simp
  ·rw[Option.mem_toList]at hy
   intro hxy;subst hxy
   exact w5 x hy hx
 ·rcases List.mem_append.1 hb with hb|hb
  ·exact h.hM b hb
  ·rw[Option.mem_toList]at hb
   exact(h.mem.iJ id _ aQ).sx trivial hb
 ·rcases List.mem_append.1 hb with hb|hb
  ·exact h.HR b hb
  ·rw[Option.mem_toList]at hb
   exact h.mem.new id _ b aQ trivial hb
 ·by_cases bo:i=id
  ·subst bo;rw[ak]at hi;cases hi;simp[aN.mut]at hm
  ·rw[al _ _ bo]at hi
   rcases List.mem_append.1 hb with hb|hb
   ·exact h.none b hb i e' hi hm
   ·rw[Option.mem_toList]at hb
    intro dq
    exact h.KH.uS i id e' _ b bo hi hm hq trivial dq hb
 ·rcases List.mem_append.1 hb with hb|hb
  ·exact h.iob b hb hb0
  ·rw[Option.mem_toList]at hb
   exact absurd hb0 (h.mem.s9 id e l b aQ hb)
 ·have g7:i≠id:=fun e=>hi ((lA i).2 (.inl e))
  rw[al _ _ g7]
  exact h.same i (fun h'=>hi ((lA i).2 (.inr h'))) iA
theorem hO.Ya{H0 H1 Hq:Nat→Option aN}{M1:Nat→Prop}{uo uf:fj}{io:List (Nat×Ty)}{hs:List Nat}(h:hO c w M ν H0 H1 Hq M1 uo uf io hs){id:Nat}{τ:Ty}{x:τ.den}(aQ:H1 id=some (.obj τ x)):
  hO c w M ν H0 (bh H1 id (some .gone)) (bh Hq id (some .gone)) M1 uo uf (io++[(id,τ)]) (hs++(dX (ν id)).toList):=by
 have ra:id∉keys io:=fun hk=>by
  obtain⟨q,hq,rfl⟩:=List.mem_map.1 hk
  have:=(h.PO q hq).1
  rw[aQ]at this;cases this
 have hq:Hq id=some (.obj τ x):=h.fz.adb aQ
 have Qq:id∉keys (uo++uf):=fun hk=>by
  have h1:=h.ext id ra
  obtain⟨_,e,l,h0⟩:=h.ksn id hk
  have key: ∀(ups:fj) (H:Nat→Option aN),(∀u∈ups,u.2=some .gone∨ ∃e l,u.2=some (.kg e l))→id∈keys ups→bP H ups id=some .gone∨ ∃e l,bP H ups id=some (.kg e l):=by
   intro ups
   induction ups with
   |nil=>intro H _ hk;simp[keys]at hk
   |cons u ups ih=>
    intro H hv hk
    by_cases PQ:id∈keys ups
    ·exact ih _ (fun v MF=>hv v (List.mem_cons_of_mem _ MF)) PQ
    ·show bP (bh H u.1 u.2) ups id=_∨ ∃e l,bP (bh H u.1 u.2) ups id=_
     rw[jl PQ]
     have hui:id=u.1:=by
      simp only[keys,List.map_cons,List.mem_cons]at hk PQ
      exact hk.resolve_right PQ
     rw[hui,ak]
     exact hv u List.mem_cons_self
  have:=key (uo++uf) H0 (fun u hu=>by
   rcases List.mem_append.1 hu with hu|hu
   ·exact .inl (h.uov u hu)
   ·obtain⟨e,l,h',_⟩:=h.ufv u hu;exact .inr ⟨e,l,h'⟩) hk
  rw[h1,aQ]at this
  rcases this with h'|⟨_,_,h'⟩<;>cases h'
 have h0:H0 id=some (.obj τ x):=by rw[←h.same id Qq ra];exact aQ
 have lA: ∀i,i∈keys (io++[(id,τ)])↔i∈keys io∨i=id:=by
  intro i
  simp only[keys,List.map_append,List.map_cons,List.map_nil,List.mem_append,List.mem_cons,List.not_mem_nil,or_false]
 have w5: ∀b,dX (ν id)=some b→b∉hs:=fun b hb dq=>h.none b dq id _ hq trivial hb
 refine⟨(Tr.gone h.mem id).mem,(Tr.gone h.KH id).mem,h.bB,fun i hi=> ?_,fun i hi=> ?_,fun q pV=> ?_,?_,fun i hi e' l'=> ?_,fun i hi=> ?_,fun i=> ?_,h.uov,h.ufv,?_,fun b hb=> ?_,fun b hb=> ?_,fun b hb i e' hi hm=> ?_,fun b hb hb0=> ?_,fun i hi iA=> ?_⟩
 ·rw[al _ _ (fun e=>hi ((lA i).2 (.inr e)))];exact h.ext i (fun h'=>hi ((lA i).2 (.inl h')))
 ·rw[al _ _ (fun e=>hi ((lA i).2 (.inr e)))];exact h.Qp i (fun h'=>hi ((lA i).2 (.inl h')))
 ·rcases List.mem_append.1 pV with pV|pV
  ·obtain⟨h1,h2,h3⟩:=h.PO q pV
   have g7:q.1≠id:=fun e=>ra (e▸List.mem_map_of_mem pV)
   exact⟨by rw[al _ _ g7];exact h1,by rw[al _ _ g7];exact h2,h3⟩
  ·rw[List.mem_singleton]at pV;subst pV
   exact⟨ak _ _ _,ak _ _ _,x,h0⟩
 ·simp only[keys,List.map_append,List.map_cons,List.map_nil]
  refine List.nodup_append.2 ⟨h.ion,by simp,fun x hx y hy=> ?_⟩
  rw[List.mem_singleton]at hy;subst hy
  intro e;exact ra (e▸hx)
 ·by_cases bo:i=id
  ·subst bo;rw[ak];intro h';cases h'
  ·rw[al _ _ bo];exact h.ks i hi e' l'
 ·obtain⟨h1,h2⟩:=h.ksn i hi
  exact⟨fun h'=>((lA i).1 h').elim h1 (fun e=>Qq (e▸hi)),h2⟩
 ·by_cases bo:i=id
  ·subst bo;left;rw[ak,ak]
  ·rw[al _ _ bo,al _ _ bo];exact h.fz i
 ·refine List.nodup_append.2 ⟨h.nd,?_,fun x hx y hy=> ?_⟩
  ·cases dX (ν id)<;>simp
  ·rw[Option.mem_toList]at hy
   intro hxy;subst hxy
   exact w5 x hy hx
 ·rcases List.mem_append.1 hb with hb|hb
  ·exact h.hM b hb
  ·rw[Option.mem_toList]at hb
   exact(h.mem.iJ id _ aQ).sx trivial hb
 ·rcases List.mem_append.1 hb with hb|hb
  ·exact h.HR b hb
  ·rw[Option.mem_toList]at hb
   exact h.mem.new id _ b aQ trivial hb
 ·by_cases bo:i=id
  ·subst bo;rw[ak]at hi;cases hi;simp[aN.mut]at hm
  ·rw[al _ _ bo]at hi
   rcases List.mem_append.1 hb with hb|hb
   ·exact h.none b hb i e' hi hm
   ·rw[Option.mem_toList]at hb
    intro dq
    exact h.KH.uS i id e' _ b bo hi hm hq trivial dq hb
 ·rcases List.mem_append.1 hb with hb|hb
  ·obtain⟨q,hq1,hq2⟩:=h.iob b hb hb0
   exact⟨q,List.mem_append_left _ hq1,hq2⟩
  ·rw[Option.mem_toList]at hb
   exact⟨(id,τ),by simp,hb⟩
 ·have g7:i≠id:=fun e=>iA ((lA i).2 (.inr e))
  rw[al _ _ g7]
  exact h.same i hi (fun h'=>iA ((lA i).2 (.inl h')))
end VM
end
section
namespace VM
open Go
variable{P:Program}{E:Env}{o:Oper}{a:Act}{w:World}{M:Nat→Prop}{ν:Nat→Value}{σ:St}{c:Ctx}{α:Type}{r:α}{next:Act→World→Prop}{Q:Exit→Act→World→Prop}
theorem nT.Yb{H:Nat→Option aN}{id:Nat}{e e':aN}(aQ:H id=some e)(hl:e.g8 e'):nT H ν (bh H id (some e')) ν:=
 ⟨fun i e1 hi=>by
  by_cases bo:i=id
  ·subst bo;rw[aQ]at hi;cases hi;exact⟨e',ak _ _ _,hl⟩
  ·exact⟨e1,by rw[al _ _ bo];exact hi,.refl e1⟩,fun _ _=>rfl⟩
theorem aN.jU(e:aN):e.g8 .gone:=by cases e<;>simp[aN.g8]
theorem VR.adf{H H':Nat→Option aN}{ν':Nat→Value}{a:Ty}{x:a.den}{v:Value}(h:VR w M H ν (vQ a x) v):VR w M H' ν' (vQ a x) v:=by
 unfold vQ at h ⊢
 split at h
 ·simp only[VR]at h ⊢;exact h
 ·simp only[VR]at h ⊢;exact h
theorem fC.free{H H':Nat→Option aN}{ν':Nat→Value}: ∀{τ:Ty} {x:τ.den} {vs:List Value},fC w M H ν (lh τ x) vs→fC w M H' ν' (lh τ x) vs
 | .pair a b,x,v::vs,h=>by
  simp only[lh,fC]at h ⊢
  exact⟨VR.adf h.1,fC.free h.2⟩
 | .pair a b,x,[],h=>by simp[lh,fC]at h
 | .int _,_,[],_| .bool,_,[],_| .str,_,[],_| .slice _,_,[],_| .unit,_,[],_| .arr _ _,_,[],_=>by simp[lh,fC]
 | .int _,_,_::_,h| .bool,_,_::_,h| .str,_,_::_,h| .slice _,_,_::_,h| .unit,_,_::_,h| .arr _ _,_,_::_,h=>by simp[lh,fC]at h
theorem wa{H0 H1 Hq:Nat→Option aN}{M1:Nat→Prop}{uo uf:fj}{io:List (Nat×Ty)}{hs:List Nat}(h:hO c w M ν H0 H1 Hq M1 uo uf io hs){m:AM}{x:aV}{v:Value}(hv:VR w M1 H1 ν x v)
  {k:m.den→(Nat→Option aN)→List Nat→fj→fj→List (Nat×Ty)→Option α} (hk:ku m x H1 k=some r):
  ∃y H2 rd DB DC z2 Me M2,k y H2 rd DB DC z2=some r∧hO c w M ν H0 H2 Me M2 (DB++uo) (DC++uf) (io++z2) (hs++cm m v)∧dd w M1 w M2∧nT H1 ν H2 ν∧A1 w M2 m y v∧
   z2.map (fun q=>ν q.1)=(if m.fD then [v]else [])∧z2.map (·.2)=kA [m]:=by
 unfold ku at hk
 split at hk
 ·
  rename_i τ k
  obtain⟨y,rd,ups,hk,hy⟩:=xJ h.mem hv hk
  rcases hy with⟨rfl,hV⟩|⟨id,e,l,rfl,aQ,hV⟩
  ·exact⟨y,H1,rd,[],[],[],Hq,M1,hk,by simpa [cm]using h,.refl w M1,.refl H1 ν,hV,rfl,rfl⟩
  ·obtain⟨M2,hA,hK,Cg⟩:=h.freeze aQ
   exact⟨y,_,rd,[],_,[],Hq,M2,hk,by simpa [cm]using hA,hK,.Yb aQ ⟨rfl,rfl⟩,hV M2 Cg,rfl,rfl⟩
 ·
  rename_i e k
  split at hk
  ·obtain⟨ad,hv⟩:=VR.emp.1 hv
   subst hv
   have hb:dX (.slice ad 0 0)=none:=by cases ad<;>simp[dX]
   exact⟨[],H1,[],[],[],[],Hq,M1,hk,by simpa [cm,hb]using h,.refl w M1,.refl H1 ν,by simp only[A1,ER];exact .inl ⟨trivial,ad,rfl⟩,rfl,rfl⟩
  ·rename_i id
   split at hk
   ·rename_i e' l aQ
    obtain⟨e1,hk⟩:=aX hk
    cases e1
    simp only[VR]at hv
    obtain⟨_,rfl⟩:=hv
    refine⟨_,_,_,_,_,_,_,M1,hk,by simpa [cm]using h.hand aQ,.refl w M1,.Yb aQ (aN.jU _),?_,rfl,rfl⟩
    have:=h.mem.iJ id _ aQ
    exact this
   ·cases hk
  ·cases hk
 ·
  rename_i τ k
  split at hk
  ·rename_i id
   split at hk
   ·rename_i υ z aQ
    obtain⟨e1,hk⟩:=aX hk
    subst e1
    simp only[VR]at hv
    obtain⟨e,he,jE⟩:=hv
    rw[aQ]at he;cases he
    simp only[AR]at jE
    obtain⟨_,b,hb,hv⟩:=jE
    have MO:v=ν id:=by rw[hv,hb];rfl
    subst MO
    refine⟨_,_,_,_,_,_,_,M1,hk,by simpa [cm]using h.Ya aQ,.refl w M1,.Yb aQ (aN.jU _),?_,rfl,rfl⟩
    have:=h.mem.iJ id _ aQ
    exact this
   ·cases hk
  ·cases hk
 ·
  rename_i f τ k
  split at hk
  ·rename_i f' cs
   obtain⟨hf,Yc⟩:=bx hk
   clear hk
   have hf:=Nat.eq_of_beq_eq_true hf
   subst hf
   have hk:=Yc
   clear Yc
   simp only[VR]at hv
   obtain⟨us,rfl,Qh⟩:=hv
   obtain⟨y,rd,ups,hk,hy⟩:=yw h.mem Qh hk
   split at hk
   ·exact⟨y,H1,rd,[],[],[],Hq,M1,hk,by simpa [cm]using h,.refl w M1,.refl H1 ν,by simp only[A1,VR];exact⟨us,rfl,hy rfl⟩,rfl,rfl⟩
   ·cases hk
  ·cases hk
 ·cases hk
 ·
  rename_i τ k
  split at hk
  ·rename_i υ z
   obtain⟨e1,hk⟩:=aX hk
   subst e1
   exact⟨_,H1,_,[],[],[],Hq,M1,hk,by simpa [cm]using h,.refl w M1,.refl H1 ν,by simp only[A1,VR]at hv ⊢;exact hv,rfl,rfl⟩
  ·cases hk
theorem wb{H0:Nat→Option aN}: ∀{ms:List AM} {lx:List aV} {vs:List Value} {H1 Hq:Nat→Option aN} {M1:Nat→Prop} {rd:List Nat} {uo uf:fj} {io:List (Nat×Ty)} {hs:List Nat} {K:HP ms→List Nat→fj→fj→List (Nat×Ty)→Option α},
  hO c w M ν H0 H1 Hq M1 uo uf io hs→fC w M1 H1 ν lx vs→n9 ms lx H1 rd uo uf io K=some r→
  ∃x uZ DB DC z2 H2 Me M2,K x uZ DB DC z2=some r∧hO c w M ν H0 H2 Me M2 DB DC z2 (hs++cA ms vs)∧dd w M1 w M2∧fN w M2 ms x vs∧
   z2.map (fun q=>ν q.1)=io.map (fun q=>ν q.1)++dm ms vs∧z2.map (·.2)=io.map (·.2)++kA ms
 |[],[],[],H1,Hq,M1,rd,uo,uf,io,hs,K,h,_,hk=>
  ⟨(),rd,uo,uf,io,H1,Hq,M1,hk,by simpa [cA]using h,.refl w M1,rfl,by simp[dm],by simp[kA]⟩
 |[m],[x],[v],H1,Hq,M1,rd,uo,uf,io,hs,K,h,hv,hk=>by
  simp only[fC,and_true]at hv
  obtain⟨y,H2,XY,uo1,uf1,io1,Me,M2,hk,hA,hK,hG,hy,Qr,Mf⟩:=wa h hv (hk:ku m x H1 _=some r)
  refine⟨y,_,_,_,_,H2,Me,M2,hk,by simpa [cA]using hA,hK,⟨v,[],rfl,hy,rfl⟩,?_,?_⟩
  ·rw[List.map_append,Qr];cases ra:m.fD<;>simp[dm,ra]
  ·rw[List.map_append,Mf]
 |m::n::ms,x::xs,v::vs,H1,Hq,M1,rd,uo,uf,io,hs,K,h,hv,hk=>by
  simp only[fC]at hv
  obtain⟨y,H2,XY,uo1,uf1,io1,Me,M2,hk,hA,hK,hG,hy,Qr,Mf⟩:=wa h hv.1 (hk:ku m x H1 _=some r)
  obtain⟨ys,uZ,DB,DC,z2,H3,Hq3,M3,hk,hA',hK',hys,hi3,hi4⟩:=wb (ms:=n::ms) hA (fC.bB hK hG hv.2) hk
  refine⟨(y,ys),_,_,_,_,H3,Hq3,M3,hk,by simpa [cA,List.append_assoc]using hA',hK.trans hK',⟨v,vs,rfl,?_,hys⟩,?_,?_⟩
  ·refine A1.qn hK' (fun b hb=>⟨rfl,hA'.hM b ?_⟩) hy
   exact List.mem_append_left _ (List.mem_append_right _ hb)
  ·rw[hi3,List.map_append,Qr,List.append_assoc]
   congr 1
   cases ra:m.fD<;>simp[dm,ra]
  ·rw[hi4,List.map_append,Mf,List.append_assoc]
   congr 1
   cases m<;>simp[kA]
 |[],_::_,_,_,_,_,_,_,_,_,_,_,_,_,hk=>by simp[n9]at hk
 |[_],[],_,_,_,_,_,_,_,_,_,_,_,_,hk=>by simp[n9]at hk
 |[_],_::_::_,_,_,_,_,_,_,_,_,_,_,_,_,hk=>by simp[n9]at hk
 |_::_::_,[],_,_,_,_,_,_,_,_,_,_,_,_,hk=>by simp[n9]at hk
 |_,_::_,[],_,_,_,_,_,_,_,_,_,_,hv,_=>by simp[fC]at hv
 |[],[],_::_,_,_,_,_,_,_,_,_,_,_,hv,_=>by simp[fC]at hv
 |[_],[_],_::_::_,_,_,_,_,_,_,_,_,_,_,hv,_=>by simp[fC]at hv
end VM
end
