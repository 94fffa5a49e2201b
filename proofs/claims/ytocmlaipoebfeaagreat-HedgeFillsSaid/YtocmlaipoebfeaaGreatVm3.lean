/- A part of the proof of HedgeFills of layer 22: a machine that reads a function of the program as an equation between values. -/
import Derived.Test.YtocmlaipoebfeaaGreatVm2
import Derived.Great.FillDense
set_option linter.all false
section
namespace VM
open Go
variable{P:Program}{E:Env}{o:Oper}{a:Act}{w:World}{M:Nat→Prop}{ν:Nat→Value}{σ:St}{c:Ctx}{α:Type}{r:α}{next:Act→World→Prop}{Q:Exit→Act→World→Prop}
theorem PV(off:Nat)(new:Array Value)(cs:Array Value)(h:off+new.size≤cs.size):
  (new.zipIdx.foldl (fun cs (x:Value×Nat)=>cs.setIfInBounds (off+x.2) x.1) cs)=(dq cs.toList off new.toList).toArray:=by
 have h1:new.zipIdx.foldl (fun cs (x:Value×Nat)=>cs.setIfInBounds (off+x.2) x.1) cs=(new.toList.zipIdx 0).foldl (fun cs (x:Value×Nat)=>cs.setIfInBounds (off+x.2) x.1) cs:=by
  rw[←Array.foldl_toList,Array.toList_zipIdx]
 rw[h1]
 obtain⟨hs,hk⟩:=Great.foldl_set off new.toList 0 cs
 apply Array.ext_getElem?
 intro k
 rw[hk k,←Array.getElem?_toList (xs:=cs)]
 have hl:new.toList.length=new.size:=Array.length_toList
 have hc:cs.toList.length=cs.size:=Array.length_toList
 unfold dq
 rw[List.getElem?_toArray]
 by_cases h2:k<off
 ·rw[if_neg (by omega),List.append_assoc,List.getElem?_append_left (by rw[List.length_take];omega),List.getElem?_take_of_lt h2]
 ·by_cases h3:k<off+new.size
  ·rw[if_pos (by omega),List.getElem?_append_left (by rw[List.length_append,List.length_take];omega),List.getElem?_append_right (by rw[List.length_take];omega),List.length_take]
   congr 1
   omega
  ·rw[if_neg (by omega),List.getElem?_append_right (by rw[List.length_append,List.length_take];omega),List.length_append,List.length_take,List.getElem?_drop]
   congr 1
   omega
theorem Cu{place:Nat→Option (Nat×Nat)}{cs:Array Value}{i:Nat}{v:Value}{rest:List (Nat×Value)}{off s:Nat}(hp:place i=some (off,s))(hs:v.cells.size=s)(h:off+s≤cs.size):
  Instr.fill place cs ((i,v)::rest)=Instr.fill place (dq cs.toList off v.cells.toList).toArray rest:=by
 have h1: ¬(decide (v.cells.size≠s)||decide (off+v.cells.size>cs.size))=true:=by simp[hs];omega
 conv=>lhs;unfold Instr.fill
 rw[hp]
 simp only
 rw[if_neg h1]
 congr 1
 exact PV off v.cells cs (by omega)
theorem qi(a:Act)(ps:Array (Nat×Operand)):(ps.map fun(i,x)=>(i,a.eval x)).toList=ps.toList.map fun p=>(p.1,a.eval p.2):=by
 rw[Array.toList_map]
def PR(w:World)(M:Nat→Prop)(H:Nat→Option aR)(ν:Nat→Value):List (Nat×a6)→List (Nat×Value)→Prop
 |[],[]=>True
 |p::ps,q::qs=>p.1=q.1∧VR w M H ν p.2 q.2∧PR w M H ν ps qs
 |_,_=>False
theorem PR.bx{w':World}{M':Nat→Prop}{H H':Nat→Option aR}{ν':Nat→Value}(k:dp w M w' M')(g:ph H ν H' ν'): ∀{ps:List (Nat×a6)} {qs:List (Nat×Value)},PR w M H ν ps qs→PR w' M' H' ν' ps qs
 |[],[],_=>trivial
 |_::_,_::_,h=>⟨h.1,h.2.1.bx k g,PR.bx k g h.2.2⟩
 |[],_::_,h=>h.elim
 |_::_,[],h=>h.elim
theorem Core.pr(hc:Core c σ a.tmps w M ν): ∀ps:List (Nat×Operand),PR w M σ.H ν (ps.map fun p=>(p.1,σ.ρ p.2)) (ps.map fun p=>(p.1,a.eval p.2))
 |[]=>trivial
 |p::ps=>⟨rfl,hc.ev p.2,hc.pr ps⟩
theorem xr{e:Ty}{n:Nat}{H:Nat→Option aR}: ∀(ps:List (Nat×a6)) (qs:List (Nat×Value)) (H1:Nat→Option aR) (M:Nat→Prop) (l:List e.den) (cs:Array Value) (rd:List Nat) (ups:fF) (K:List e.den→List Nat→fF→Option α),
  Fz H H1→Mem c H1 w M ν→PR w M H1 ν ps qs→l.length=n→cs.size=n*e.size→nu w M e cs.toList l→H1=b8 H ups→rF e H n ps l rd ups K=some r→
  ∃l' wu kA M' cs',K l' wu kA=some r∧Tr c H1 w M ν (b8 H kA) w M' ν∧Fz H (b8 H kA)∧l'.length=n∧cs'.size=n*e.size∧nu w M' e cs'.toList l'∧
   Instr.fill (fun i=>some (i*e.size,e.size)) cs qs=some cs':=by
 intro ps
 induction ps with
 |nil=>
  intro qs H1 M l cs rd ups K hz hm hp hl hs hr hH h
  cases qs with
  |cons _ _=>exact hp.elim
  |nil=>exact⟨l,rd,ups,M,cs,h,hH▸Tr.refl hm,hH▸hz,hl,hs,hr,rfl⟩
 |cons p ps ih=>
  intro qs H1 M l cs rd ups K hz hm hp hl hs hr hH h
  cases qs with
  |nil=>exact hp.elim
  |cons q qs=>
   obtain⟨h1,h2,h3⟩:=hp
   unfold rF at h
   obtain⟨hb,h⟩:=bK h
   have dT:p.1<n:=by simpa [Nat.blt_eq]using hb
   obtain⟨y,rd1,J3,M1,h,eZ,hV,yZ,_⟩:=kC hz hm h2 h
   have hlen:(q.2.cells).size=e.size:=by rw[←Array.length_toList];exact hV.cells.length
   have hmul:=cY (s:=e.size) dT
   have th:=nu.set (hr.bx eZ.bx) (by rw[hl,Array.length_toList,hs];exact Nat.le_refl _) (i:=p.1) (by omega) hV.cells
   obtain⟨l',wu,kA,M',cs',hK,abu,BC,Fm,J4,dD,hf⟩:=ih qs (b8 H1 J3) M1 (l.set p.1 y) (dq cs.toList (p.1*e.size) q.2.cells.toList).toArray (rd1++rd) (ups++J3) K yZ eZ.mem (h3.bx eZ.bx eZ.goes)
    (by rw[List.length_set];exact hl) (by rw[List.size_toArray,ep (by rw[Array.length_toList,Array.length_toList];omega),Array.length_toList,hs]) th (by rw[eb,hH]) h
   refine⟨l',wu,kA,M',cs',hK,eZ.trans abu,BC,Fm,J4,dD,?_⟩
   rw[Cu (off:=p.1*e.size) (s:=e.size) (by rw[h1]) hlen (by omega)]
   exact hf
theorem DZ{τ:Ty}{H:Nat→Option aR}{place:Nat→Option (Nat×Nat)}(BF: ∀(x:τ.den) n υ y o,yl τ x n υ y o→place n=some (o,υ.size)):
  ∀(ps:List (Nat×a6)) (qs:List (Nat×Value)) (H1:Nat→Option aR) (M:Nat→Prop) (x:τ.den) (cs:Array Value) (rd:List Nat) (ups:fF) (K:τ.den→List Nat→fF→Option α),
  Fz H H1→Mem c H1 w M ν→PR w M H1 ν ps qs→Rd w M τ cs.toList x→H1=b8 H ups→qc τ H ps x rd ups K=some r→
  ∃x' wu kA M' cs',K x' wu kA=some r∧Tr c H1 w M ν (b8 H kA) w M' ν∧Fz H (b8 H kA)∧Rd w M' τ cs'.toList x'∧Instr.fill place cs qs=some cs'∧
   ∀m υ,DJ τ m=some υ→(ps.all fun p=> !(Nat.beq p.1 m))=true→(cs'.toList.drop (oj τ m)).take υ.size=(cs.toList.drop (oj τ m)).take υ.size:=by
 intro ps
 induction ps with
 |nil=>
  intro qs H1 M x cs rd ups K hz hm hp hr hH h
  cases qs with
  |cons _ _=>exact hp.elim
  |nil=>exact⟨x,rd,ups,M,cs,h,hH▸Tr.refl hm,hH▸hz,hr,rfl,fun _ _ _ _=>rfl⟩
 |cons p ps ih=>
  intro qs H1 M x cs rd ups K hz hm hp hr hH h
  cases qs with
  |nil=>exact hp.elim
  |cons q qs=>
   obtain⟨h1,h2,h3⟩:=hp
   unfold qc at h
   obtain⟨υ,y0,of,hf,h⟩:=pD h
   obtain⟨y,rd1,J3,M1,h,eZ,hV,yZ,_⟩:=kC hz hm h2 h
   obtain⟨υ',y',o',k',we,gB,zB⟩:=oL h
   obtain⟨rfl,rfl⟩:=we.eq
   obtain⟨rfl,rfl⟩:=hf.eq
   obtain⟨e1,BS⟩:=bc gB
   obtain⟨x',pL,_,iq⟩:=zB _ _ BS
   have hlen:(q.2.cells).size=(rq τ p.1).size:=by rw[←Array.length_toList];exact hV.cells.length
   have hb:=hf.bound
   have Fp:=hr.length
   rw[Array.length_toList]at Fp
   obtain⟨x2,wu,kA,M',cs',hK,abu,BC,dD,PM,J5⟩:=ih qs (b8 H1 J3) M1 x' (dq cs.toList (oj τ p.1) q.2.cells.toList).toArray (rd1++rd) (ups++J3) K yZ eZ.mem (h3.bx eZ.bx eZ.goes)
    (iq w M1 _ _ (hr.bx eZ.bx) hV.cells) (by rw[eb,hH]) pL
   refine⟨x2,wu,kA,M',cs',hK,eZ.trans abu,BC,dD,?_,fun m υ gB gH=> ?_⟩
   ·rw[Cu (off:=oj τ p.1) (s:=(rq τ p.1).size) (by rw[←h1];exact BF _ _ _ _ _ hf) hlen (by omega)]
    exact PM
   ·rw[List.all_cons,Bool.and_eq_true]at gH
    rw[J5 m υ gB gH.2]
    obtain⟨y2,o2,hf2⟩:=pE gB x
    obtain⟨e3,e4⟩:=hf2.eq
    subst e3 e4
    have gi:p.1≠m:=fun e=>by have:=gH.1;rw[e,Nat.beq_refl]at this;cases this
    have hap:=hf.apart hf2 gi
    have tg:=hf2.bound
    show((dq cs.toList (oj τ p.1) q.2.cells.toList).drop _).take _=_
    rw[DQ (by rw[Array.length_toList];omega) (by rw[Array.length_toList,Array.length_toList];omega)]
theorem dM.places: ∀(τ:Ty) (fs:Array Field) (n off:Nat),dM P τ (.inr (fs,n,off))→
  ∃ps,(fs.toList.drop n).mapM (fun f=>(P.info? f.type).map fun i=>(f.offset,i.size))=some ps∧ ∀(x:τ.den) m υ y o,yl τ x m υ y o→ps[m]? =some (off+o,υ.size)
 | .unit,fs,n,off,h=>by
  simp only[dM]at h
  refine⟨[],?_,fun x m υ y o hf=>by cases hf⟩
  rw[List.drop_of_length_le (by rw[Array.length_toList];omega)];rfl
 | .pair t b,fs,n,off,h=>by
  simp only[dM]at h
  obtain⟨f,hf,ho,ha,hb⟩:=h
  obtain⟨ps,JD,PM⟩:=dM.places b fs (n+1) (off+t.size) hb
  obtain⟨i,hi,hs,_⟩:=(show g5 P t f.type from ha).base
  have dT:n<fs.toList.length:=by rw[Array.length_toList];exact(Array.getElem?_eq_some_iff.1 hf).1
  have hfe:fs.toList[n]=f:=by rw[Array.getElem_toList];exact(Array.getElem?_eq_some_iff.1 hf).2
  refine⟨(off,t.size)::ps,?_,fun x m υ y o we=> ?_⟩
  ·rw[List.drop_eq_getElem_cons dT,List.mapM_cons,JD,hfe,hi]
   simp[ho,hs]
  ·cases we with
   |here=>simp
   |there _ h'=>simp[PM _ _ _ _ _ h',Nat.add_assoc]
 | .int _,_,_,_,h| .bool,_,_,_,h| .str,_,_,_,h| .slice _,_,_,_,h| .arr _ _,_,_,_,h=>by simp[dM]at h
theorem g5.places{τ:Ty}{t:TypeId}(h:g5 P τ t)(ha:τ.isAgg=true)(hn: ∀n e,τ≠ .arr n e):
  ∃fs ps,P.underlying t=some (.struct fs)∧fs.toList.mapM (fun f=>(P.info? f.type).map fun i=>(f.offset,i.size))=some ps∧ ∀(x:τ.den) m υ y o,yl τ x m υ y o→ps[m]? =some (o,υ.size):=by
 cases τ with
 |unit=>
  simp only[g5,dM]at h
  obtain⟨_,fs,hu,hs⟩:=h
  refine⟨fs,[],hu,?_,fun x m υ y o hf=>by cases hf⟩
  have:fs.toList=[]:=List.eq_nil_of_length_eq_zero (by rw[Array.length_toList];exact hs)
  rw[this];rfl
 |pair t' b=>
  simp only[g5,dM]at h
  obtain⟨_,fs,f,hu,hf,ho,ha',hb⟩:=h
  have hg:dM P (.pair t' b) (.inr (fs,0,0)):=by
   simp only[dM]
   exact⟨f,hf,ho,ha',by simpa using hb⟩
  obtain⟨ps,JD,PM⟩:=dM.places _ fs 0 0 hg
  exact⟨fs,ps,hu,JD,fun x m υ y o we=>by simpa using PM x m υ y o we⟩
 |arr n e=>exact absurd rfl (hn n e)
 |int _=>simp[Ty.isAgg]at ha
 |bool=>simp[Ty.isAgg]at ha
 |str=>simp[Ty.isAgg]at ha
 |slice _=>simp[Ty.isAgg]at ha
theorem uZ{ρ:Operand→Value}{t:TypeId}{ps:Array (Nat×Operand)}(ho:o.op= .build t ps){v:Value}(h:(Instr.build t (ps.map fun(i,x)=>(i,ρ x))).run P w= .ok v w):(execOp ρ o).run P w= .ok (.value v) w:=by
 simp[execOp,ho,h]
theorem u2{ρ:Operand→Value}{t:TypeId}{n:Nat}{ps:Array (Nat×Operand)}(ho:o.op= .buildSlice t n ps){v:Value}{w':World}(h:(Instr.buildSlice t n (ps.map fun(i,x)=>(i,ρ x))).run P w= .ok v w'):(execOp ρ o).run P w= .ok (.value v) w':=by
 simp[execOp,ho,h]
theorem VR.L0{H:Nat→Option aR}{τ:Ty}(ha:τ.isAgg=true){cs:Array Value}{x:τ.den}(h:Rd w M τ cs.toList x):VR w M H ν (.val τ x) (.agg cs):=by
 simp only[VR,V];rw[if_pos ha];exact⟨cs,rfl,h⟩
theorem D0(hE:EnvTy P E)(hc:Core c σ a.tmps w M ν){t:TypeId}{ps:Array (Nat×Operand)}(ho:o.op= .build t ps){K:fG α}{n:Nat}{e:Ty}(ht:E.ty t=some (.arr n e))
  (h:rF e σ.H n (partsOf σ.ρ ps) (List.replicate n e.zero) [] [] (fun l rd ups=>K (.val (.arr n e) l) rd ups)=some r) (hn:dU c σ a o w M ν K r next):o.wp P a w next Q:=by
 have hl:=hE.ty t _ ht
 obtain⟨e',hu,hle⟩:=hl.arr
 obtain⟨i,hi,hs,hz,_⟩:=hl.base
 obtain⟨ie,hie,hes,_⟩:=hle.base
 have hr0:=Rd.arr.1 (Rd.zero w M (.arr n e))
 obtain⟨l',wu,kA,M',cs',hK,eZ,BC,Fm,J4,dD,hf⟩:=xr (partsOf σ.ρ ps) (ps.toList.map fun(p:Nat×Operand)=>(p.1,a.eval p.2)) σ.H M (List.replicate n e.zero) (Ty.ck (.arr n e)).toArray [] [] _ (.refl _) hc.mem (hc.pr ps.toList)
  (by rw[List.length_replicate]) (by rw[List.size_toArray];exact hr0.2.1) hr0.2.2 rfl h
 refine aN (uZ ho (run_build w t _ cs' ?_)) (hn _ _ _ _ _ _ _ hK eZ (VR.L0 rfl (Rd.arr.2 ⟨Fm,by rw[Array.length_toList];exact J4,dD⟩)))
 unfold Program.built
 rw[hi,hu]
 simp only[hz,hie,hes,qi]
 exact hf
theorem yv(hE:EnvTy P E)(hc:Core c σ a.tmps w M ν){t:TypeId}{ps:Array (Nat×Operand)}(ho:o.op= .build t ps){K:fG α}{τ:Ty}(ht:E.ty t=some τ)(hna: ∀n e,τ≠ .arr n e)
  (h:cond τ.isAgg (qc τ σ.H (partsOf σ.ρ ps) τ.zero [] [] (fun l rd ups=>K (TA E (partsOf σ.ρ ps) τ l) rd ups)) none=some r) (hn:dU c σ a o w M ν K r next):o.wp P a w next Q:=by
 obtain⟨FP,h⟩:=bK h
 have hl:=hE.ty t _ ht
 obtain⟨fs,pl,hu,JD,BF⟩:=hl.places FP hna
 obtain⟨i,hi,hs,hz,_⟩:=hl.base
 obtain⟨l',wu,kA,M',cs',hK,eZ,BC,dD,hf,J5⟩:=DZ (place:=(pl.toArray[·]?)) (fun x n υ y o hf=>by simpa using BF x n υ y o hf) (partsOf σ.ρ ps) (ps.toList.map fun(p:Nat×Operand)=>(p.1,a.eval p.2)) σ.H M τ.zero τ.ck.toArray [] [] _ (.refl _) hc.mem (hc.pr ps.toList)
  (Rd.zero w M τ) rfl h
 have hvr:VR w M' (b8 σ.H kA) ν (TA E (partsOf σ.ρ ps) τ l') (.agg cs'):=by
  unfold TA
  split
  ·rename_i n e pH
   cases gH:(partsOf σ.ρ ps).all fun p=> !(Nat.beq p.1 n)
   ·exact VR.L0 FP dD
   ·have hq:=LV pH
    show VR w M' (b8 σ.H kA) ν (.DK τ l' n) (.agg cs')
    have hv:=VR.L0 (H:=b8 σ.H kA) (ν:=ν) FP dD
    simp only[VR]at hv ⊢
    refine⟨hv,cs',none,rfl,?_⟩
    have hfq:DJ τ n=some (.slice e):=by
     unfold eE at hq
     split at hq
     ·rename_i a ha
      rw[ha]
      have:=of_decide_eq_true hq
      rw[this]
     ·cases hq
    have h2:=J5 n _ hfq gH
    have h3:=Cq hq
    simp only[bM,Nat.add_zero]at h3
    have h4:=congrArg (fun l=>l[0]?) h2
    simp only[List.getElem?_take,List.getElem?_drop,Nat.add_zero]at h4
    rw[if_pos (show 0<(Ty.slice e).size from Nat.one_pos),if_pos (show 0<(Ty.slice e).size from Nat.one_pos)]at h4
    rw[h4];exact h3
  ·exact VR.L0 FP dD
 refine aN (uZ ho (run_build w t _ cs' ?_)) (hn _ _ _ _ _ _ _ hK eZ hvr)
 unfold Program.built
 rw[hi,hu]
 have hzc:(bQ τ τ.ck).cells=τ.ck.toArray:=by apply Array.ext';rw[eJ]
 simp only[hz,JD,qi,hzc]
 exact hf
theorem BT(hE:EnvTy P E)(hc:Core c σ a.tmps w M ν){t:TypeId}{n:Nat}{ps:Array (Nat×Operand)}(ho:o.op= .buildSlice t n ps){K:fG α}{e:Ty}(ht:E.ty t=some (.slice e)){id:Nat}
  (h:cond (Nat.ble (n*(e.size+1)) 16777216) (nn σ.H id (.own e []) (rF e σ.H n (partsOf σ.ρ ps) (List.replicate n e.zero) [] [] fun l rd ups=>K (.ref id) (id::rd) (ups++[(id,some (.own e l))]))) none=some r)
  (hn:dU c σ a o w M ν K r next):o.wp P a w next Q:=by
 obtain⟨hb,h⟩:=bK h
 obtain⟨aU,h⟩:=iE h
 have hb:=Nat.le_of_ble_eq_true hb
 rw[Nat.mul_add,Nat.mul_one]at hb
 obtain⟨e',hu,hle⟩:=(hE.ty t _ ht).slice
 obtain⟨ie,hie,hes,hz,_⟩:=hle.base
 obtain⟨l',wu,kA,M',cs',hK,eZ,BC,Fm,J4,dD,hf⟩:=xr (partsOf σ.ρ ps) (ps.toList.map fun(p:Nat×Operand)=>(p.1,a.eval p.2)) σ.H M (List.replicate n e.zero) (madeCells (bQ e e.ck).cells (n*e.size)) [] [] _ (.refl _) hc.mem (hc.pr ps.toList)
  (by rw[List.length_replicate]) (size_madeCells _ _) (nu.made w M e (Nat.le_refl _)) rfl h
 have abh:b8 σ.H kA id=none:=BC.none aU
 have rM:=eZ.trans (Tr.row eZ.mem abh e' (e:=e) (cs:=cs') (l:=l') (cap:=n) (by omega) (by simp[maxLen];omega) J4 dD)
 have cI:(Instr.buildSlice t n (ps.map fun(i,x)=>(i,a.eval x))).run P w= .ok (.slice (some ⟨w.heap.size,0,none⟩) n n) (w.alloc (.cells cs' e')):=by
  by_cases h0:n*e.size=0
  ·rw[h0]at hf
   have hm0:madeCells (bQ e e.ck).cells 0=(Array.range 0).map fun i:Nat=>(#[]:Array Value)[i%0]! :=by simp[madeCells]
   rw[hm0]at hf
   rw[←qi]at hf
   simp[Instr.buildSlice,run_underlying hu,Go.sizeOf,typeInfo,hie,hes,h0,newRow]at hf ⊢
   simp[hf]
  ·refine run_buildSlice w t e' n _ cs' ie _ hu hie hz (by rw[hes];omega) (by rw[hes];exact h0) ?_
   rw[hes,qi]
   exact hf
 refine aN (u2 ho cI) (hn _ _ _ _ _ (fun b=>M' b∨b=w.heap.size) (cr ν id (.slice (some ⟨w.heap.size,0,none⟩) l'.length n)) hK ?_ ?_)
 ·rw[eb];exact rM
 ·simp only[VR]
  exact⟨by rw[eb];show bs _ id _ id≠none;rw[ak];simp,by simp[cr,Fm]⟩
end VM
end
section
namespace VM
open Go
variable{P:Program}{E:Env}{o:Oper}{a:Act}{w:World}{M:Nat→Prop}{ν:Nat→Value}{σ:St}{c:Ctx}{α:Type}{r:α}{next:Act→World→Prop}{Q:Exit→Act→World→Prop}
def S7(o:Option Value)(d l:Int):Prop:=(o=none∧l=d)∨ ∃k,o=some (.int k l)
theorem nw(hc:Core c σ a.tmps w M ν){x:Option Operand}{d:Int}{k:Int→Option α}(h:tN (x.map σ.ρ) d k=some r): ∃l,k l=some r∧S7 (x.map a.eval) d l:=by
 cases x with
 |none=>exact⟨d,h,.inl ⟨rfl,rfl⟩⟩
 |some x=>
  obtain⟨i,n,hx,h⟩:=jN (h:rD (σ.ρ x) (fun _ x=>k x)=some r)
  have hv:=hc.ev x
  rw[hx]at hv
  exact⟨n,h,.inr ⟨i,by rw[←hv.int];rfl⟩⟩
theorem q8{s:Bool}{len cap:Nat}{lo hi mx:Option Value}{l h m:Int}(yw:S7 lo 0 l)(Fs:S7 hi len h)(PW:S7 mx cap m)(hm:mx.isNone=true∨hi.isSome=true)
  (h0:0≤l) (h1:l≤h) (h2:h≤m) (h3:m≤cap):(Instr.sliceBounds s len cap lo hi mx).run P w= .ok (l.toNat,h.toNat,m.toNat) w:=by
 have hb: ∀(k:IntKind) (i:Int) (y:Nat) cd,0≤i→i≤y→(Instr.sliceBound (.int k i) y cd).run P w= .ok i.toNat w:=by
  intro k i y cd h1 h2
  simp[Instr.sliceBound,asIntOf,h1,h2]
 have gB:((m.toNat:Nat):Int)=m:=by omega
 have S8:((h.toNat:Nat):Int)=h:=by omega
 rcases PW with⟨rfl,rfl⟩|⟨km,rfl⟩
 ·rcases Fs with⟨rfl,rfl⟩|⟨kh,rfl⟩
  ·rcases yw with⟨rfl,rfl⟩|⟨kl,rfl⟩
   ·simp[Instr.sliceBounds]
   ·simp[Instr.sliceBounds,hb kl l len _ h0 h1]
  ·rcases yw with⟨rfl,rfl⟩|⟨kl,rfl⟩
   ·simp[Instr.sliceBounds,hb kh h cap _ (by omega) h2]
   ·simp[Instr.sliceBounds,hb kh h cap _ (by omega) h2,hb kl l h.toNat _ h0 (by omega)]
 ·rcases Fs with⟨rfl,rfl⟩|⟨kh,rfl⟩
  ·simp at hm
  ·rcases yw with⟨rfl,rfl⟩|⟨kl,rfl⟩
   ·simp[Instr.sliceBounds,hb km m cap _ (by omega) h3,hb kh h m.toNat _ (by omega) (by omega)]
   ·simp[Instr.sliceBounds,hb km m cap _ (by omega) h3,hb kh h m.toNat _ (by omega) (by omega),hb kl l h.toNat _ h0 (by omega)]
theorem BU{ρ:Operand→Value}{t:TypeId}{x:Operand}{lo hi mx:Option Operand}(ho:o.op= .slice t x lo hi mx){s:ByteArray}{l h:Int}(hu:P.underlying t=some .string)(hx:ρ x= .string s)
  (yw:S7 (lo.map ρ) 0 l) (Fs:S7 (hi.map ρ) s.size h) (PW:mx.isNone=true) (h0:0≤l) (h1:l≤h) (h2:h≤s.size):(execOp ρ o).run P w= .ok (.value (.string (s.extract l.toNat h.toNat))) w:=by
 have hm:mx=none:=by simpa using PW
 subst hm
 have hb:=q8 (P:=P) (w:=w) (s:=false) yw Fs (.inl ⟨rfl,rfl⟩) (.inl rfl) h0 h1 h2 (Int.le_refl _)
 simp[execOp,ho,hx,Instr.sliceAt,Instr.slice,run_underlying hu,hb]
theorem qj{ρ:Operand→Value}{t e:TypeId}{x:Operand}{lo hi mx:Option Operand}(ho:o.op= .slice t x lo hi mx){τ:Ty}{ad:Option Addr}{len cap:Nat}{l h m:Int}(hu:P.underlying t=some (.slice e))(hle:g5 P τ e)(hx:ρ x= .slice ad len cap)
  (yw:S7 (lo.map ρ) 0 l) (Fs:S7 (hi.map ρ) len h) (PW:S7 (mx.map ρ) cap m) (hm:(mx.map ρ).isNone=true∨(hi.map ρ).isSome=true) (h0:0≤l) (h1:l≤h) (h2:h≤m) (h3:m≤cap):
  (execOp ρ o).run P w= .ok (.value (.slice (if m.toNat=l.toNat then ad else ad.map (·.add (l.toNat*τ.size))) (h.toNat-l.toNat) (m.toNat-l.toNat))) w:=by
 have hb:=q8 (P:=P) (w:=w) (s:=true) yw Fs PW hm h0 h1 h2 h3
 simp[execOp,ho,hx,Instr.sliceAt,Instr.slice,run_underlying hu,hb,cj hle]
theorem xt{x:Option Operand}(h:iO x=true)(a:Act): ∃k,x.map a.eval=some (.int k 0):=by
 unfold iO at h
 split at h
 ·rename_i k n
  have:n=0:=by simpa using h
  subst this
  exact⟨k,rfl⟩
 ·cases h
theorem Rd.cut{e:Ty}{ad:Option Addr}{len cap:Nat}{x:List e.den}(h:Rd w M (.slice e) [.slice ad len cap] x){l hh m:Int}(h0:0≤l)(h1:l≤hh)(h2:hh≤m)(hl:hh≤x.length):
  Rd w M (.slice e) [.slice (if m.toNat=l.toNat then ad else ad.map (·.add (l.toNat*e.size))) (hh.toNat-l.toNat) (m.toNat-l.toNat)] (List.drop l.toNat (List.take hh.toNat x)):=by
 simp only[Rd,List.cons.injEq,and_true]at h ⊢
 obtain⟨a',jO,hv,hc,hr⟩:=h
 cases hv
 have hlen:List.length (List.drop l.toNat (List.take hh.toNat x))=hh.toNat-l.toNat:=by rw[List.length_drop,List.length_take];omega
 refine⟨_,_,by rw[hlen],by rw[hlen];omega,fun i hi=> ?_⟩
 rw[hlen]at hi
 obtain⟨b,off,ha,hb,hm,cs,ld,iq⟩:=hr (l.toNat+i) (by omega)
 rw[if_neg (by omega)]
 refine⟨b,off+l.toNat*e.size,by rw[ha];simp[Addr.add_lit],hb,hm,cs,?_,?_⟩
 ·rw[show off+l.toNat*e.size+i*e.size=off+(l.toNat+i)*e.size from by rw[Nat.add_mul];omega];exact ld
 ·simp only[List.get_eq_getElem,List.getElem_drop,List.getElem_take]at iq ⊢
  exact iq
theorem VR.emp{H:Nat→Option aR}{v:Value}:VR w M H ν .emp v↔ ∃ad,v= .slice ad 0 0:=by simp[VR]
theorem PX(hE:EnvTy P E)(hc:Core c σ a.tmps w M ν){t:TypeId}{x:Operand}{lo hi mx:Option Operand}(ho:o.op= .slice t x lo hi mx){K:fG α}{τ:Ty}(ht:E.ty t=some τ)
  (h:nq τ (lo.isNone&&iO hi&&iO mx) (σ.ρ x) (lo.map σ.ρ) (hi.map σ.ρ) (mx.map σ.ρ) σ.H K=some r) (hn:dU c σ a o w M ν K r next):o.wp P a w next Q:=by
 have uW:=hE.ty t τ ht
 have hv:=hc.ev x
 have hz0: ∀(e:Ty) (e':TypeId) (ad:Option Addr) (len cap:Nat),P.underlying t=some (.slice e')→g5 P e e'→a.eval x= .slice ad len cap→(lo.isNone&&iO hi&&iO mx)=true→
   ∃ad',(execOp a.eval o).run P w= .ok (.value (.slice ad' 0 0)) w:=by
  intro e e' ad len cap hu hle hx hz
  simp only[Bool.and_eq_true]at hz
  obtain⟨⟨h1,h2⟩,h3⟩:=hz
  have h1:lo=none:=by simpa using h1
  subst h1
  obtain⟨k2,h2⟩:=xt h2 a
  obtain⟨k3,h3⟩:=xt h3 a
  have:=qj (P:=P) (w:=w) ho hu hle hx (l:=0) (h:=0) (m:=0) (.inl ⟨rfl,rfl⟩) (.inr ⟨k2,h2⟩) (.inr ⟨k3,h3⟩) (.inr (by rw[h2];rfl)) (by omega) (by omega) (by omega) (by omega)
  exact⟨_,this⟩
 unfold nq at h
 split at h
 ·rename_i s hx
  obtain⟨hm,h⟩:=bK h
  obtain⟨l,h,yw⟩:=nw hc h
  obtain⟨hh,h,Fs⟩:=nw hc h
  obtain⟨hk,h⟩:=bK h
  rw[uN]at hk
  obtain⟨h0,h1,h2,h3⟩:=of_decide_eq_true hk
  rw[hx]at hv
  exact aN (BU ho uW.str hv.str yw Fs (by simpa using hm) h0 h1 h2) (hn _ [] [] _ _ _ _ h (.refl hc.mem) (.mkStr _))
 ·rename_i e hx
  obtain⟨e',hu,hle⟩:=uW.slice
  rw[hx]at hv
  obtain⟨ad,hv⟩:=VR.emp.1 hv
  cases hz:(lo.isNone&&iO hi&&iO mx)
  ·rw[hz]at h
   replace h:cond (mx.map σ.ρ).isNone (tN (lo.map σ.ρ) 0 fun l=>tN (hi.map σ.ρ) 0 fun h=>cond (gD l h 0 0) (K .emp [] []) none) none=some r:=h
   obtain⟨hm,h⟩:=bK h
   obtain⟨l,h,yw⟩:=nw hc h
   obtain⟨hh,h,Fs⟩:=nw hc h
   obtain⟨hk,hK⟩:=bK h
   rw[uN]at hk
   obtain⟨h0,h1,h2,h3⟩:=of_decide_eq_true hk
   have gB:mx=none:=by simpa using hm
   subst gB
   have:=qj (P:=P) (w:=w) ho hu hle hv yw Fs (.inl ⟨rfl,rfl⟩) (.inl rfl) h0 h1 (m:=0) (by omega) (by omega)
   refine aN this (hn _ [] [] _ _ _ _ hK (.refl hc.mem) (VR.emp.2 ?_))
   rw[show hh.toNat-l.toNat=0 from by omega,show(0:Int).toNat-l.toNat=0 from by omega]
   exact⟨_,rfl⟩
  ·rw[hz]at h
   obtain⟨ad',cI⟩:=hz0 e e' ad 0 0 hu hle hv hz
   exact aN cI (hn _ [] [] _ _ _ _ h (.refl hc.mem) (VR.emp.2 ⟨_,rfl⟩))
 ·rename_i e gi
  obtain⟨e',hu,hle⟩:=uW.slice
  cases hz:(lo.isNone&&iO hi&&iO mx)
  ·rw[hz]at h
   obtain⟨y,rd,ups,M',h,eZ,hV,_⟩:=kC (.refl _) hc.mem hv h
   replace h:cond ((mx.map σ.ρ).isNone||(hi.map σ.ρ).isSome) (tN (lo.map σ.ρ) 0 fun l=>tN (hi.map σ.ρ) (List.length y:Int) fun h=>tN (mx.map σ.ρ) (List.length y:Int) fun m=>
    cond (gD l h m (List.length y:Int)) (K (.val (.slice e) (List.drop l.toNat (List.take h.toNat y))) rd ups) none) none=some r:=h
   obtain⟨hm,h⟩:=bK h
   obtain⟨l,h,yw⟩:=nw hc h
   obtain⟨hh,h,Fs⟩:=nw hc h
   obtain⟨m,h,PW⟩:=nw hc h
   obtain⟨hk,h⟩:=bK h
   rw[uN]at hk
   obtain⟨h0,h1,h2,h3⟩:=of_decide_eq_true hk
   have hr:=V.slice.1 hV
   have dD:=hr
   simp only[Rd,List.cons.injEq,and_true]at dD
   obtain⟨ad,cap,hx,agK,_⟩:=dD
   rw[hx]at hr
   have gB:(mx.map a.eval).isNone=true∨(hi.map a.eval).isSome=true:=by
    simp only[Bool.or_eq_true,Option.isNone_map,Option.isSome_map]at hm ⊢;exact hm
   have abx: ∃m',S7 (mx.map a.eval) cap m'∧hh≤m'∧m'≤cap:=by
    rcases PW with⟨h9,_⟩|⟨k,h9⟩
    ·exact⟨cap,.inl ⟨h9,rfl⟩,by omega,Int.le_refl _⟩
    ·exact⟨m,.inr ⟨k,h9⟩,h2,by omega⟩
   obtain⟨m',abx,h4,h5⟩:=abx
   have cI:=qj (P:=P) (w:=w) ho hu hle hx yw Fs abx gB h0 h1 h4 h5
   refine aN cI (hn _ _ _ _ _ M' _ h eZ ?_)
   simp only[VR]
   exact V.slice.2 (hr.cut h0 h1 h4 (by omega))
  ·rw[hz]at h
   obtain⟨y,rd,h,hS⟩:=xm hc.mem hv h
   obtain⟨ad,cap,hx,_⟩:=hS
   obtain⟨ad',cI⟩:=hz0 e e' ad _ cap hu hle hx hz
   exact aN cI (hn _ _ [] _ _ _ _ h (.refl hc.mem) (VR.emp.2 ⟨_,rfl⟩))
 ·cases h
end VM
end
section
namespace VM
open Go
variable{P:Program}{E:Env}{o:Oper}{a:Act}{w:World}{M:Nat→Prop}{ν:Nat→Value}{σ:St}{c:Ctx}{α:Type}{r:α}{next:Act→World→Prop}{Q:Exit→Act→World→Prop}
theorem oM{t ty e:TypeId}{i:TypeInfo}(ht:P.underlying t=some (.slice e))(hi:P.info? e=some i)(base:Option Addr)(n cap:Nat)(h:n≤cap)(a':Option Addr)(cp:Nat):
  (Builtin.append_ #[t,t] ty #[.slice base n cap,.slice a' 0 cp]).run P w= .ok (.slice base n cap) w:=by
 cases a'<;>cases base<;>simp[Builtin.append_,run_underlying ht,Go.sizeOf,typeInfo,hi,Builtin.lenOf,h,Builtin.firstCells,loadCells,loadCellsFrom,storeCells]
theorem F1{t ty e te:TypeId}{i:TypeInfo}(ht:P.underlying t=some (.slice e))(hi:P.info? e=some i){b n cap m cp:Nat}{a':Addr}{news:List Value}{cs:Array Value}
  (hg:w.heap[b]? =some (.cells cs te (0,0))) (hs:cs.size=cap*i.size) (hl:news.length=m*i.size) (hn: ∀j u,news[j]? =some u→w.cell? (a'.add j)=some u) (h1: ∀u∈news,u.oneCell'=true) (hr:n+m≤cap):
  (Builtin.append_ #[t,t] ty #[.slice (some ⟨b,0,none⟩) n cap,.slice (some a') m cp]).run P w= .ok (.slice (some ⟨b,0,none⟩) (n+m) cap) (w.setRow b (dq cs.toList (n*i.size) news).toArray):=by
 have hf:=run_firstCells_some (P:=P) w i.size m a' m cp news hl hn
 have hm:(n+m)*i.size≤cap*i.size:=Nat.mul_le_mul_right _ hr
 rw[Nat.add_mul]at hm
 have JA:=run_storeCells_at (P:=P) b (n*i.size) te news 0 cs w hg (by omega) h1
 simp only[Nat.add_zero]at JA
 simp[Builtin.append_,run_underlying ht,Go.sizeOf,typeInfo,hi,Builtin.lenOf,hr,hf,Addr.add_lit,JA,dq]
theorem eV{args:Array Operand}{t:TypeId}{x y:Operand}{v:Value}{w':World}(ho:o.op= .call {callee:= .builtin .append,args,argTypes:= #[t,t]})(ha:args.toList=[x,y])
  (h:(Builtin.append_ #[t,t] o.type #[a.eval x,a.eval y]).run P w= .ok v w'):(execOp a.eval o).run P w= .ok (.value v) w':=by
 obtain⟨cs,hr⟩:=ns (P:=P) (ρ:=a.eval) ho (w:=w)
 rw[hr]
 have:args.map a.eval= #[a.eval x,a.eval y]:=by apply Array.ext';simp[ha]
 rw[this]
 simp[builtin,h]
theorem zE{H:Nat→Option aR}(hm:Mem c H w M ν){id:Nat}(aU:H id=none){t ty:TypeId}{e':TypeId}{e:Ty}(hu:P.underlying t=some (.slice e'))(hle:g5 P e e')
  {xs ys:List e.den} {olds news:List Value} {base:Option Addr} {cap cp:Nat} {a':Addr} (PY:base=none→xs=[]∧cap=0)
  (yw:olds.length=xs.length*e.size) (hro:nu w M e olds xs) (ho: ∀b,base=some b→ ∀j u,olds[j]? =some u→w.cell? (b.add j)=some u)
  (S9:news.length=ys.length*e.size) (hrn:nu w M e news ys) (hn: ∀j u,news[j]? =some u→w.cell? (a'.add j)=some u)
  (hg:cap<xs.length+ys.length) (hs:xs.length+ys.length<uD):
  ∃v w' M' ν',(Builtin.append_ #[t,t] ty #[.slice base xs.length cap,.slice (some a') ys.length cp]).run P w= .ok v w'∧Tr c H w M ν (bs H id (some (.own e (xs++ys)))) w' M' ν'∧ν' id=v:=by
 obtain⟨i,hi,p9,hz,hby⟩:=hle.base
 have hzs:(bQ e e.ck).cells.size=e.size:=by rw[←Array.length_toList,eJ,lh]
 have h63:xs.length+ys.length≤maxLen:=by simp only[uD,maxLen]at hs ⊢;omega
 have F2:(xs.length+ys.length)*i.bytes≤140737488355328:=by
  have:(xs.length+ys.length)*i.bytes≤68719476736*2048:=Nat.mul_le_mul (by simp only[uD]at hs;omega) hby
  omega
 have cI: ∃jO rest,(Builtin.append_ #[t,t] ty #[.slice base xs.length cap,.slice (some a') ys.length cp]).run P w= .ok (.slice (some ⟨w.heap.size,0,none⟩) (xs.length+ys.length) jO) (w.drew.alloc (.cells (olds++news++rest).toArray e'))∧
   xs.length+ys.length≤jO∧jO≤maxLen∧rest.length=(jO-(xs.length+ys.length))*e.size:=by
  refine⟨grownCap w (xs.length+ys.length) cap e',(Builtin.zeroCells (bQ e e.ck).cells (grownCap w (xs.length+ys.length) cap e'-(xs.length+ys.length))).toList,?_,grownCap_ge _ _ _ _,grownCap_le_maxLen _ _ _ _ h63,?_⟩
  ·cases base with
   |none=>
    obtain⟨rfl,rfl⟩:=PY rfl
    have ho0:olds=[]:=List.eq_nil_of_length_eq_zero (by rw[yw];simp)
    subst ho0
    have:=run_append_nil (P:=P) w t ty e' i _ hu hi hz a' ys.length cp news (by rw[S9,p9]) hn (by simpa using hg) (by simp only[uD]at hs;omega) (by simp at F2;omega)
    simp only[List.length_nil,Nat.zero_add,List.nil_append]
    rw[this]
    congr 2
    apply congrArg (fun z=>Obj.cells z e' (0,0))
    apply Array.ext';simp
   |some b=>
    have:=run_append_grow (P:=P) w t ty e' i _ hu hi hz b xs.length cap olds (by rw[yw,p9]) (ho b rfl) a' ys.length cp news (by rw[S9,p9]) hn hg (by simp only[uD]at hs;omega) (growslice_fits hg F2)
    rw[this]
    congr 2
    apply congrArg (fun z=>Obj.cells z e' (0,0))
    apply Array.ext';simp
  ·rw[Array.length_toList,size_zeroCells,hzs]
 obtain⟨jO,rest,cI,BS,hc2,agP⟩:=cI
 have hlen:(xs++ys).length=xs.length+ys.length:=List.length_append
 have hd:=Tr.drew hm
 have hon:(olds++news).length=(xs++ys).length*e.size:=by rw[List.length_append,yw,S9,hlen,Nat.add_mul]
 have J6:=Tr.row hd.mem aU e' (e:=e) (cs:=(olds++news++rest).toArray) (l:=xs++ys) (cap:=jO) (by rw[hlen];exact BS) hc2
  (by rw[List.size_toArray,List.length_append,hon,agP,hlen,←Nat.add_mul];congr 1;omega)
  (nu.more ((hro.append yw hrn).bx hd.bx) (by rw[hon];exact Nat.le_refl _))
 refine⟨_,_,_,_,cI,hd.trans J6,?_⟩
 rw[←hlen];simp[cr]
theorem Nr(hE:EnvTy P E)(hc:Core c σ a.tmps w M ν){args:Array Operand}{ts:Array TypeId}{t t':TypeId}{x y:Operand}(ho:o.op= .call {callee:= .builtin .append,args,argTypes:=ts})(ha:args.toList=[x,y])(hts:ts.toList=[t,t']){K:fG α}{e:Ty}
  (ht:E.ty t=some (.slice e)) {id:Nat} (h:cond (Nat.beq t t') (nn σ.H id (.own e []) (FI id e (σ.ρ x) (σ.ρ y) σ.H K)) none=some r) (hn:dU c σ a o w M ν K r next):o.wp P a w next Q:=by
 obtain⟨htt,h1⟩:=bK h
 clear h
 have htt:=Nat.eq_of_beq_eq_true htt
 subst htt
 obtain⟨aU,h⟩:=iE h1
 clear h1
 have amt:ts= #[t,t]:=by apply Array.ext';simpa using hts
 subst amt
 obtain⟨e',hu,hle⟩:=(hE.ty t _ ht).slice
 obtain⟨i,hi,p9,hz,hby⟩:=hle.base
 have DY:=hc.ev x
 unfold FI at h
 obtain⟨ys,rd,h,hS⟩:=xm hc.mem (hc.ev y) h
 have abA:(ys=[]∧ ∃a' cp,a.eval y= .slice a' 0 cp)∨(ys≠[]∧ ∃a' cp news,a.eval y= .slice (some a') ys.length cp∧news.length=ys.length*e.size∧(∀j u,news[j]? =some u→w.cell? (a'.add j)=some u)∧nu w M e news ys∧ ∀u∈news,u.oneCell'=true):=by
  by_cases hy:ys=[]
  ·left
   obtain⟨a',cp,hv,_⟩:=hS
   exact⟨hy,a',cp,by rw[hv,hy];rfl⟩
  ·right
   obtain⟨b,off,cp,news,hv,hl,ld,iq,h1⟩:=hS.cells hy
   exact⟨hy,⟨b,off,none⟩,cp,news,hv,hl,fun j u hj=>by rw[Addr.add_lit];exact ld j u hj,iq,h1⟩
 split at h
 ·
  rename_i hx
  rw[hx]at DY
  obtain⟨ad,DY⟩:=VR.emp.1 DY
  obtain⟨Ta,h⟩:=bK h
  rw[zp]at Ta
  have Ta:=of_decide_eq_true Ta
  rcases abA with⟨rfl,a',cp,yr⟩|⟨hy,a',cp,news,yr,hl,ld,iq,h1⟩
  ·refine aN (eV ho ha (by rw[DY,yr];exact oM hu hi ad 0 0 (Nat.le_refl _) a' cp)) (hn _ _ _ _ _ _ _ h (Tr.nothing hc.mem aU e ad) ?_)
   simp only[VR]
   exact⟨by show bs _ id _ id≠none;rw[ak];simp,by simp[cr]⟩
  ·have J7:0<ys.length:=List.length_pos_iff.2 hy
   obtain⟨v,w',M',ν',cI,eZ,hv⟩:=zE (P:=P) (ty:=o.type) hc.mem aU hu hle (xs:=[]) (ys:=ys) (olds:=[]) (news:=news) (base:=ad) (cap:=0) (cp:=cp) (a':=a') (fun _=>⟨rfl,rfl⟩) (by simp) (fun i hi=>absurd hi (by simp)) (fun _ _ j u hj=>by simp at hj)
    hl iq ld (by simpa using J7) (by simpa using Ta)
   refine aN (eV ho ha (by rw[DY,yr];exact cI)) (hn _ _ _ _ _ _ _ h eZ ?_)
   simp only[VR]
   exact⟨by show bs _ id _ id≠none;rw[ak];simp,hv.symm⟩
 ·
  rename_i j hx
  rw[hx]at DY
  simp only[VR]at DY
  obtain⟨_,DY⟩:=DY
  split at h
  ·rename_i e1 l hj
   obtain⟨e2,h⟩:=bc h
   cases e2
   obtain⟨Ta,h⟩:=bK h
   rw[zp]at Ta
   have Ta:l.length+ys.length<uD:=of_decide_eq_true Ta
   have gi:id≠j:=fun e=>by rw[e,hj]at aU;cases aU
   have ma:bs σ.H j (some .gone) id=none:=by rw[an _ _ gi];exact aU
   have JE:=Tr.gone hc.mem j
   have jy:=hc.mem.jj j _ hj
   simp only[ER]at jy
   rcases jy with⟨rfl,ad,hjv⟩|⟨b,cs,te,cap,hjv,hg,hM,Pp,hl,BL,hs,hr⟩
   ·rw[hjv]at DY
    rcases abA with⟨rfl,a',cp,yr⟩|⟨hy,a',cp,news,yr,hl,ld,iq,h1⟩
    ·refine aN (eV ho ha (by rw[DY,yr];exact oM hu hi ad 0 0 (Nat.le_refl _) a' cp)) (hn _ _ _ _ _ _ _ h (JE.trans (Tr.nothing JE.mem ma e ad)) ?_)
     simp only[VR]
     exact⟨by show bs _ id _ id≠none;rw[ak];simp,by simp[cr]⟩
    ·have J7:0<ys.length:=List.length_pos_iff.2 hy
     obtain⟨v,w',M',ν',cI,eZ,hv⟩:=zE (P:=P) (ty:=o.type) JE.mem ma hu hle (xs:=[]) (ys:=ys) (olds:=[]) (news:=news) (base:=ad) (cap:=0) (cp:=cp) (a':=a') (fun _=>⟨rfl,rfl⟩) (by simp) (fun i hi=>absurd hi (by simp)) (fun _ _ j u hj=>by simp at hj)
      hl iq ld (by simpa using J7) (by simpa using Ta)
     refine aN (eV ho ha (by rw[DY,yr];exact cI)) (hn _ _ _ _ _ _ _ h (JE.trans eZ) ?_)
     simp only[VR]
     exact⟨by show bs _ id _ id≠none;rw[ak];simp,hv.symm⟩
   ·rw[hjv]at DY
    have Fp:cs.toList.length=cap*e.size:=by rw[Array.length_toList,hs]
    have Tb:l.length*e.size≤cap*e.size:=Nat.mul_le_mul_right _ hl
    rcases abA with⟨rfl,a',cp,yr⟩|⟨hy,a',cp,news,yr,S9,ld,iq,h1⟩
    ·refine aN (eV ho ha (by rw[DY,yr];exact oM hu hi _ _ cap hl a' cp)) (hn _ _ _ _ _ M (cr ν id (ν j)) h ?_ ?_)
     ·refine Tr.rename hc.mem hj aU (.inr rfl) ?_
      rw[List.append_nil]
      exact hc.mem.jj j _ hj
     ·simp only[VR]
      exact⟨by show bs _ id _ id≠none;rw[ak];simp,by simp[cr,hjv]⟩
    ·by_cases u5:l.length+ys.length≤cap
     ·have hmul:(l.length+ys.length)*e.size≤cap*e.size:=Nat.mul_le_mul_right _ u5
      rw[Nat.add_mul]at hmul
      have cI:=F1 (P:=P) (ty:=o.type) hu hi (w:=w) (b:=b) (n:=l.length) (cap:=cap) (m:=ys.length) (cp:=cp) (a':=a') (news:=news) (cs:=cs) hg (by rw[hs,p9]) (by rw[S9,p9]) ld h1 u5
      rw[p9]at cI
      have TH:dq cs.toList (l.length*e.size) news=(cs.toList.take (l.length*e.size)++news)++cs.toList.drop (l.length*e.size+news.length):=rfl
      have hold:nu w M e (cs.toList.take (l.length*e.size)) l:=nu.take hr (Nat.le_refl _)
      have htl:(cs.toList.take (l.length*e.size)).length=l.length*e.size:=by rw[List.length_take];omega
      have aaf:nu w M e (dq cs.toList (l.length*e.size) news) (l++ys):=by
       rw[TH]
       refine nu.more (hold.append htl iq) ?_
       rw[List.length_append,List.length_append,htl,S9,Nat.add_mul];exact Nat.le_refl _
      have hsl:(dq cs.toList (l.length*e.size) news).length=cap*e.size:=by rw[ep (by omega)];exact Fp
      have TP:Tr c σ.H w M ν (bs σ.H j (some (.own e l))) (w.setRow b (dq cs.toList (l.length*e.size) news).toArray) M ν:=by
       refine Tr.write (e':= .own e l) hc.mem hj trivial trivial (.refl _) (by rw[hjv];simp[ez];omega) hg fun Jz hk wA=> ?_
       simp only[ER]
       refine .inr ⟨b,_,te,cap,hjv,setRow_heap w b cs _ te _ hg,wA,Pp,hl,BL,by rw[List.size_toArray];exact hsl,fun k zB=> ?_⟩
       have:=(aaf k (by rw[List.length_append];omega)).bx hk
       rw[List.getElem_append_left zB]at this
       exact this
      rw[wy hj]at TP
      have rM:Tr c σ.H (w.setRow b (dq cs.toList (l.length*e.size) news).toArray) M ν (bs (bs σ.H j (some .gone)) id (some (.own e (l++ys)))) (w.setRow b (dq cs.toList (l.length*e.size) news).toArray) M (cr ν id (.slice (some ⟨b,0,none⟩) (l++ys).length cap)):=by
       refine Tr.rename TP.mem hj aU (.inr (by rw[hjv];simp[ez])) ?_
       simp only[ER]
       refine .inr ⟨b,_,te,cap,rfl,setRow_heap w b cs _ te _ hg,hM,Pp,by rw[List.length_append];exact u5,BL,by rw[List.size_toArray];exact hsl,(aaf.bx TP.bx)⟩
      refine aN (eV ho ha (by rw[DY,yr];exact cI)) (hn _ _ _ _ _ _ _ h (TP.trans rM) ?_)
      simp only[VR]
      exact⟨by show bs _ id _ id≠none;rw[ak];simp,by simp[cr]⟩
     ·obtain⟨v,w',M',ν',cI,eZ,hv⟩:=zE (P:=P) (ty:=o.type) JE.mem ma hu hle (xs:=l) (ys:=ys) (olds:=cs.toList.take (l.length*e.size)) (news:=news) (base:=some ⟨b,0,none⟩) (cap:=cap) (cp:=cp) (a':=a') (fun h=>by cases h)
       (by rw[List.length_take];omega) (nu.take hr (Nat.le_refl _)) (fun b' dF k u hk=>by
        cases dF
        rw[Addr.add_lit,cell_of hg]
        rw[List.getElem?_take]at hk
        split at hk
        ·rw[←Array.getElem?_toList];simpa using hk
        ·cases hk)
       S9 iq ld (by omega) Ta
      refine aN (eV ho ha (by rw[DY,yr];exact cI)) (hn _ _ _ _ _ _ _ h (JE.trans eZ) ?_)
      simp only[VR]
      exact⟨by show bs _ id _ id≠none;rw[ak];simp,hv.symm⟩
  ·cases h
 ·cases h
end VM
end
section
namespace VM
open Go
variable{P:Program}{E:Env}{o:Oper}{a:Act}{w:World}{M:Nat→Prop}{ν:Nat→Value}{σ:St}{c:Ctx}{α:Type}{r:α}{next:Act→World→Prop}{Q:Exit→Act→World→Prop}
def rz:{m:AM}→{ms:List AM}→HP (m::ms)→m.den
 |_,[],x=>x
 |_,_::_,x=>x.1
def wh:{m:AM}→{ms:List AM}→HP (m::ms)→HP ms
 |_,[],_=>()
 |_,_::_,x=>x.2
def AM.fR:AM→Bool
 | .io _=>true
 |_=>false
def AM.TQ:AM→Bool
 | .fn _ _| .fP _=>true
 |_=>false
def A1(w:World)(M:Nat→Prop):(m:AM)→m.den→Value→Prop
 | .v τ,x,v=>V w M τ v x
 | .own e,x,v=>ER w M v (.own e x)
 | .io τ,x,v=>ER w M v (.obj τ x)
 | .fn f τ,x,v=>VR w M (fun _=>none) (fun _=>undef) (.FE f (mz τ x)) v
 | .ptr τ,x,v=>ER w M v (.obj τ x)
 | .fP τ,x,v=>VR w M (fun _=>none) (fun _=>undef) (.nk τ x) v
def gj(w:World)(M:Nat→Prop):(ms:List AM)→HP ms→List Value→Prop
 |[],_,vs=>vs=[]
 |_::ms,x,vs=> ∃v Ft,vs=v::Ft∧A1 w M _ (rz x) v∧gj w M ms (wh x) Ft
def cD:AM→Value→List Nat
 | .own _,v| .io _,v| .ptr _,v=>(ez v).toList
 |_,_=>[]
def cK:List AM→List Value→List Nat
 |m::ms,v::vs=>cD m v++cK ms vs
 |_,_=>[]
def dB:List AM→List Value→List Value
 |m::ms,v::vs=>if m.fR then v::dB ms vs else dB ms vs
 |_,_=>[]
def lC:List AM→List Ty
 | .io τ::ms=>τ::lC ms
 |_::ms=>lC ms
 |[]=>[]
def RR(w:World)(M:Nat→Prop):(ms:List AM)→HP ms→List Value→List Value→Prop
 |[],_,vs,ps=>vs=[]∧ps=[]
 |m::ms,x,vs,ps=>(∃p BV,m.fR=true∧ps=p::BV∧A1 w M m (rz x) p∧RR w M ms (wh x) vs BV)∨
  (∃v Ft,m.fR=false∧m.TQ=false∧vs=v::Ft∧A1 w M m (rz x) v∧RR w M ms (wh x) Ft ps)
def bg:List AM→List Value→List Value→List Nat
 |[],_,_=>[]
 |m::ms,vs,ps=>if m.fR then cD m (ps.headD undef)++bg ms vs ps.tail else cD m (vs.headD undef)++bg ms vs.tail ps
def Ty.flat:Ty→Bool
 | .slice _=>false
 | .pair a b=>a.flat&&b.flat
 | .arr _ e=>e.flat
 |_=>true
def AM.flat:AM→Bool
 | .v τ| .io τ| .own τ| .ptr τ=>τ.flat
 | .fn _ _| .fP _=>false
def rP(vs:List Value):Value:=if h:vs.length=1 then vs[0]else .tuple vs.toArray
structure Left(w:World)(M0:Nat→Prop)(hs:List Nat)(w':World)(M':Nat→Prop):Prop where
 sub: ∀b,M0 b→M' b
 zs: ∀b,M' b→b<w'.heap.size
 less: ∀b,b<w.heap.size→M' b→M0 b∨b∈hs
 frame: ∀b,b<w.heap.size→b∉hs→w'.heap[b]? =w.heap[b]?
 size:w.heap.size≤w'.heap.size
 os:w'.os=w.os
 tape:w'.tape=w.tape
 output:w'.output=w.output
def F3(P:Program)(f:FuncId)(args:Array Value)(w:World)(R:Value→World→Prop):Prop:=
 ∀(o:Oper) (a:Act) (next:Act→World→Prop) (Q:Exit→Act→World→Prop),(∀v w',R v w'→next (a.put o.dst v) w')→o.upon P a next Q ((callFunc f args).run P w)
theorem F3.mono{f:FuncId}{args:Array Value}{R R':Value→World→Prop}(h:F3 P f args w R)(hr: ∀v w',R v w'→R' v w'):F3 P f args w R':=
 fun o a next Q hn=>h o a next Q fun v w' hv=>hn v w' (hr v w' hv)
theorem pj{f:FuncId}{fn:Func}{args:Array Value}{R:Value→World→Prop}(hf:P.funcs[f]? =some fn)(hn:(fn.name== "runtime.NumGoroutine")=false)(hb:fn.body.isNone=false)
  (h:Calls P f args w fun e w'=> ∃v,e= .returned v∧R v w'):F3 P f args w R:=by
 intro o a next Q tD
 have hn': ¬fn.name= "runtime.NumGoroutine" :=by simpa using hn
 have dF: ¬fn.body=none:=fun e=>by rw[e]at hb;cases hb
 have:(callFunc f args).run P w= .ok (.enter f args) w:=by simp[callFunc,hf,hn',dF]
 rw[this,Oper.upon_enter]
 refine Calls.mono h ?_
 rintro e w' ⟨v,rfl,hR⟩
 exact tD v w' hR
theorem BW{f:FuncId}{args:Array Value}{R:Value→World→Prop}{v:Value}{w':World}(h:(callFunc f args).run P w= .ok (.value v) w')(hR:R v w'):F3 P f args w R:=by
 intro o a next Q tD
 rw[h,Oper.upon_value]
 exact tD v w' hR
structure e7(P:Program)(f:FuncId)(S:iC):Prop where
 quiet:S.quiet=true→S.res.all AM.flat=true
 ios:lC S.args=lC S.res
 call: ∀(M0:Nat→Prop) (w:World) (vs:List Value) (x:HP S.args) (y:HP S.res),(∀b,M0 b→b<w.heap.size)→
  gj w (fun b=>M0 b∨b∈cK S.args vs) S.args x vs→(cK S.args vs).Nodup→(∀b∈cK S.args vs,¬M0 b)→S.run x=some y→
  F3 P f vs.toArray w fun v w'=> ∃us M',v=rP us∧RR w' M' S.res y us (dB S.args vs)∧Left w M0 (cK S.args vs) w' M'∧
   (bg S.res us (dB S.args vs)).Nodup∧ ∀b∈bg S.res us (dB S.args vs),¬M0 b
theorem Rd.flat{w:World}{M M':Nat→Prop}: ∀{τ:Ty} {cs:List Value} {x:τ.den},τ.flat=true→Rd w M τ cs x→Rd w M' τ cs x
 | .int _,_,_,_,h| .bool,_,_,_,h| .str,_,_,_,h| .unit,_,_,_,h=>h
 | .slice _,_,_,hf,_=>by simp[Ty.flat]at hf
 | .pair a b,_,_,hf,h=>by
  simp only[Ty.flat,Bool.and_eq_true]at hf
  simp only[Rd]at h ⊢
  obtain⟨c1,c2,rfl,h1,h2⟩:=h
  exact⟨c1,c2,rfl,h1.flat hf.1,h2.flat hf.2⟩
 | .arr n e,_,x,hf,h=>by
  simp only[Ty.flat]at hf
  simp only[Rd]at h ⊢
  obtain⟨hn,Nd,hc,rfl,hr⟩:=h
  exact⟨hn,Nd,hc,rfl,fun i hi kk=>(hr i hi kk).flat hf⟩
theorem A1.flat{w:World}{M M':Nat→Prop}(hM: ∀b,M b→M' b){m:AM}{x:m.den}{v:Value}(hf:m.flat=true)(h:A1 w M m x v):A1 w M' m x v:=by
 cases m with
 |v τ=>
  simp only[A1,V,AM.flat]at h hf ⊢
  split
  ·rename_i ha;rw[if_pos ha]at h;obtain⟨cs,h1,h⟩:=h;exact⟨cs,h1,h.flat hf⟩
  ·rename_i ha;rw[if_neg ha]at h;exact h.flat hf
 |own e=>
  simp only[A1,ER,AM.flat]at h hf ⊢
  rcases h with h|⟨b,cs,t,cap,h1,h2,h3,h4,h5,h6,h7,h8⟩
  ·exact .inl h
  ·exact .inr ⟨b,cs,t,cap,h1,h2,hM b h3,h4,h5,h6,h7,fun i hi=>(h8 i hi).flat hf⟩
 |io τ=>
  simp only[A1,ER,AM.flat]at h hf ⊢
  obtain⟨b,cs,t,h1,h2,h3,h4⟩:=h
  exact⟨b,cs,t,h1,h2,hM b h3,h4.flat hf⟩
 |fn f τ=>simp[AM.flat]at hf
 |fP τ=>simp[AM.flat]at hf
 |ptr τ=>
  simp only[A1,ER,AM.flat]at h hf ⊢
  obtain⟨b,cs,t,h1,h2,h3,h4⟩:=h
  exact⟨b,cs,t,h1,h2,hM b h3,h4.flat hf⟩
theorem RR.flat{w:World}{M M':Nat→Prop}(hM: ∀b,M b→M' b): ∀{ms:List AM} {x:HP ms} {vs ps:List Value},ms.all AM.flat=true→RR w M ms x vs ps→RR w M' ms x vs ps
 |[],_,_,_,_,h=>h
 |m::ms,x,vs,ps,hf,h=>by
  simp only[List.all_cons,Bool.and_eq_true]at hf
  simp only[RR]at h ⊢
  rcases h with⟨p,BV,h1,h2,h3,h4⟩|⟨v,Ft,h1,h2,h3,h4,h5⟩
  ·exact .inl ⟨p,BV,h1,h2,h3.flat hM hf.1,RR.flat hM hf.2 h4⟩
  ·exact .inr ⟨v,Ft,h1,h2,h3,h4.flat hM hf.1,RR.flat hM hf.2 h5⟩
theorem A1.rQ{w w':World}{M M':Nat→Prop}(k:dp w M w' M'){m:AM}{x:m.den}{v:Value}(hm: ∀b∈cD m v,w'.heap[b]? =w.heap[b]? ∧M' b)(h:A1 w M m x v):A1 w' M' m x v:=by
 cases m with
 |v τ=>exact V.bx k h
 |own e=>
  simp only[A1]at h ⊢
  exact ER.bx k (fun _ b hb=>hm b (by simp[cD,hb])) h
 |io τ=>
  simp only[A1]at h ⊢
  exact ER.bx k (fun _ b hb=>hm b (by simp[cD,hb])) h
 |fn f τ=>exact VR.bx k (.refl _ _) h
 |fP τ=>exact VR.bx k (.refl _ _) h
 |ptr τ=>
  simp only[A1]at h ⊢
  exact ER.bx k (fun _ b hb=>hm b (by simp[cD,hb])) h
theorem gj.rQ{w w':World}{M M':Nat→Prop}(k:dp w M w' M'): ∀{ms:List AM} {x:HP ms} {vs:List Value},(∀b∈cK ms vs,w'.heap[b]? =w.heap[b]? ∧M' b)→gj w M ms x vs→gj w' M' ms x vs
 |[],_,_,_,h=>h
 |m::ms,x,vs,hm,h=>by
  simp only[gj]at h ⊢
  obtain⟨v,Ft,rfl,h1,h2⟩:=h
  exact⟨v,Ft,rfl,h1.rQ k (fun b hb=>hm b (by simp[cK,hb])),gj.rQ k (fun b hb=>hm b (by simp[cK,hb])) h2⟩
theorem RR.rQ{w w':World}{M M':Nat→Prop}(k:dp w M w' M'): ∀{ms:List AM} {x:HP ms} {us ps:List Value},(∀b∈bg ms us ps,w'.heap[b]? =w.heap[b]? ∧M' b)→RR w M ms x us ps→RR w' M' ms x us ps
 |[],_,_,_,_,h=>h
 |m::ms,x,us,ps,hm,h=>by
  simp only[RR]at h ⊢
  rcases h with⟨p,BV,h1,rfl,h2,h3⟩|⟨v,D1,h1,h2,rfl,h3,h4⟩
  ·simp only[bg,h1,if_true,List.headD_cons,List.tail_cons,List.mem_append]at hm
   exact .inl ⟨p,BV,h1,rfl,h2.rQ k (fun b hb=>hm b (.inl hb)),RR.rQ k (fun b hb=>hm b (.inr hb)) h3⟩
  ·simp only[bg,h1,Bool.false_eq_true,if_false,List.headD_cons,List.tail_cons,List.mem_append]at hm
   exact .inr ⟨v,D1,h1,h2,rfl,h3.rQ k (fun b hb=>hm b (.inl hb)),RR.rQ k (fun b hb=>hm b (.inr hb)) h4⟩
theorem y3{H:Nat→Option aR}(hm:Mem c H w M ν){a:a6}{v:Value}(hv:VR w M H ν a v){τ:Ty}{k:τ.den→List Nat→fF→Option α}{r:α}(h:iV true a H τ k=some r):
  ∃y rd ups,k y rd ups=some r∧((ups=[]∧V w M τ v y)∨ ∃id e l,ups=[(id,some (.la e l))]∧H id=some (.own e l)∧
   ∀M',(∀b,M' b↔(M b∧ez (ν id)≠some b))→V w M' τ v y):=by
 unfold iV at h
 split at h
 ·obtain⟨e,h⟩:=bc h
  subst e
  simp only[VR]at hv
  exact⟨_,[],[],h,.inl ⟨rfl,hv⟩⟩
 ·obtain⟨e,h⟩:=bc h
  subst e
  simp only[VR]at hv
  exact⟨_,[],[],h,.inl ⟨rfl,hv.1⟩⟩
 ·split at h
  ·rename_i e k' _
   simp only[VR]at hv
   obtain⟨a,rfl⟩:=hv
   refine⟨[],[],[],h,.inl ⟨rfl,V.slice.2 ?_⟩⟩
   simp only[Rd]
   exact⟨a,0,rfl,Nat.le_refl _,fun i hi=>absurd hi (by simp)⟩
  ·cases h
 ·rename_i id
  simp only[VR]at hv
  obtain⟨_,rfl⟩:=hv
  split at h
  ·rename_i e l aU
   obtain⟨e',h⟩:=bc h
   subst e'
   refine⟨_,_,_,h,.inr ⟨id,e,l,rfl,aU,fun M' hM'=> ?_⟩⟩
   obtain⟨M2,_,hV,DU⟩:=Tr.freeze hm aU
   have:M'=M2:=by funext b;exact propext ((hM' b).trans (DU b).symm)
   rw[this];exact hV
  ·rename_i e l aU
   obtain⟨e',h⟩:=bc h
   subst e'
   have:=hm.jj id _ aU
   simp only[ER]at this
   exact⟨_,_,_,h,.inl ⟨rfl,V.slice.2 this.1⟩⟩
  ·cases h
 ·cases h
theorem PZ{H:Nat→Option aR}(hm:Mem c H w M ν): ∀{a:Ty} {x:a6} {v:Value} {k:a.den→List Nat→fF→Option α} {r:α},VR w M H ν x v→xg x H a k=some r→
  ∃y rd ups,k y rd ups=some r∧(ups=[]→VR w M (fun _=>none) (fun _=>undef) (xh a y) v):=by
 intro a x v k r hv h
 unfold xg at h
 split at h
 ·rename_i a k
  split at h
  ·rename_i υ z
   obtain⟨e1,h⟩:=bc h
   subst e1
   refine⟨_,_,_,h,fun _=> ?_⟩
   simp only[xh,VR]at hv ⊢
   exact hv
  ·cases h
 ·rename_i k0 pI
  obtain⟨y,rd,ups,h,hy⟩:=y3 hm hv h
  refine⟨y,rd,ups,h,fun hu=> ?_⟩
  rcases hy with⟨_,hy⟩|⟨_,_,_,h3,_⟩
  ·have:xh _ y= .val _ y:=by
    unfold xh
    split
    ·exact(pI _ _ rfl HEq.rfl).elim
    ·rfl
   rw[this]
   simp only[VR];exact hy
  ·rw[hu]at h3;cases h3
theorem zF{H:Nat→Option aR}(hm:Mem c H w M ν): ∀{τ:Ty} {mG:List a6} {vs:List Value} {k:τ.den→List Nat→fF→Option α} {r:α},fQ w M H ν mG vs→np H τ mG k=some r→
  ∃x rd ups,k x rd ups=some r∧(ups=[]→fQ w M (fun _=>none) (fun _=>undef) (mz τ x) vs)
 | .unit,[],[],k,r,_,h=>⟨(),[],[],h,fun _=>by simp[mz,fQ]⟩
 | .pair a b,x::xs,v::vs,k,r,hv,h=>by
  simp only[fQ]at hv
  unfold np at h
  obtain⟨y,rd,ups,h,hy⟩:=PZ hm hv.1 h
  obtain⟨ys,wu,kA,h,hys⟩:=zF hm hv.2 h
  refine⟨(y,ys),_,_,h,fun hu=> ?_⟩
  have h1:ups=[]:=(List.append_eq_nil_iff.1 hu).1
  have h2:kA=[]:=(List.append_eq_nil_iff.1 hu).2
  simp only[mz,fQ]
  exact⟨hy h1,hys h2⟩
 | .unit,[],_::_,_,_,hv,_=>by simp[fQ]at hv
 |_,_::_,[],_,_,hv,_=>by simp[fQ]at hv
 | .unit,_::_,_,_,_,_,h=>by simp[np]at h
 | .pair _ _,[],_,_,_,_,h=>by simp[np]at h
 | .int _,_,_,_,_,_,h| .bool,_,_,_,_,_,h| .str,_,_,_,_,_,h| .slice _,_,_,_,_,_,h| .arr _ _,_,_,_,_,_,h=>by simp[np]at h
end VM
end
section
namespace VM
open Go
variable{P:Program}{E:Env}{o:Oper}{a:Act}{w:World}{M:Nat→Prop}{ν:Nat→Value}{σ:St}{c:Ctx}{α:Type}{r:α}{next:Act→World→Prop}{Q:Exit→Act→World→Prop}
def keys{β:Type}(l:List (Nat×β)):List Nat:=l.map (·.1)
theorem jP{i:Nat}: ∀{ups:fF} {H:Nat→Option aR},i∉keys ups→b8 H ups i=H i
 |[],_,_=>rfl
 |u::r,H,h=>by
  simp only[keys,List.map_cons,List.mem_cons,not_or]at h
  show b8 (bs H u.1 u.2) r i=_
  rw[jP h.2,an _ _ h.1]
theorem u6(u:Nat×Option aR)(b:fF)(hb:u.1∉keys b): ∀(a:fF) (H:Nat→Option aR),b8 H (a++u::b)=bs (b8 H (a++b)) u.1 u.2
 |[],H=>by
  show b8 (bs H u.1 u.2) b=bs (b8 H b) u.1 u.2
  induction b generalizing H with
  |nil=>rfl
  |cons v b ih=>
   simp only[keys,List.map_cons,List.mem_cons,not_or]at hb
   show b8 (bs (bs H u.1 u.2) v.1 v.2) b=bs (b8 (bs H v.1 v.2) b) u.1 u.2
   rw[←ih hb.2]
   congr 1
   funext i
   by_cases h1:i=v.1
   ·subst h1;rw[ak,an _ _ (Ne.symm hb.1),ak]
   ·by_cases h2:i=u.1
    ·subst h2;rw[an _ _ h1,ak,ak]
    ·rw[an _ _ h1,an _ _ h2,an _ _ h2,an _ _ h1]
 |v::a,H=>u6 u b hb a (bs H v.1 v.2)
structure iF(c:Ctx)(w:World)(M:Nat→Prop)(ν:Nat→Value)(H0 H1 Hq:Nat→Option aR)(M1:Nat→Prop)(uo uf:fF)(io:List (Nat×Ty))(hs:List Nat):Prop where
 mem:Mem c H1 w M1 ν
 Ns:Mem c Hq w M ν
 bx:dp w M w M1
 ext: ∀i,i∉keys io→b8 H0 (uo++uf) i=H1 i
 TR: ∀i,i∉keys io→b8 H0 uo i=Hq i
 Tc: ∀q∈io,H1 q.1=some .gone∧Hq q.1=some .gone∧ ∃x,H0 q.1=some (.obj q.2 x)
 ion:(keys io).Nodup
 ks: ∀i∈keys (uo++uf),∀e l,H1 i≠some (.own e l)
 ksn: ∀i∈keys (uo++uf),i∉keys io∧ ∃e l,H0 i=some (.own e l)
 fz:Fz Hq H1
 uov: ∀u∈uo,u.2=some .gone
 ufv: ∀u∈uf,∃e l,u.2=some (.la e l)∧H0 u.1=some (.own e l)
 nd:hs.Nodup
 hM: ∀b∈hs,M1 b
 J8: ∀b∈hs,c.B≤b∨c.may b
 none: ∀b∈hs,∀i e,Hq i=some e→e.mut→ez (ν i)≠some b
 iob: ∀b∈hs,c.M0 b→ ∃q∈io,ez (ν q.1)=some b
 same: ∀i,i∉keys (uo++uf)→i∉keys io→H1 i=H0 i
theorem iF.start{H:Nat→Option aR}(hm:Mem c H w M ν):iF c w M ν H H H M [] [] [] []:=
 ⟨hm,hm,.refl w M,fun _ _=>rfl,fun _ _=>rfl,fun q hq=>by simp at hq,by simp[keys],fun i hi=>by simp[keys]at hi,fun i hi=>by simp[keys]at hi,.refl H,fun u hu=>by simp at hu,fun u hu=>by simp at hu,by simp,fun b hb=>by simp at hb,fun b hb=>by simp at hb,fun b hb=>by simp at hb,fun b hb=>by simp at hb,fun _ _ _=>rfl⟩
theorem Fz.abC{H H1:Nat→Option aR}(h:Fz H H1){i:Nat}{e:Ty}{l:List e.den}(hi:H1 i=some (.own e l)):H i=some (.own e l):=by
 rcases h i with h'|⟨e',l',_,h'⟩
 ·rw[←h',hi]
 ·rw[hi]at h';cases h'
theorem Fz.agU{H H1:Nat→Option aR}(h:Fz H H1){i:Nat}{e:Ty}{l:e.den}(hi:H1 i=some (.obj e l)):H i=some (.obj e l):=by
 rcases h i with h'|⟨e',l',_,h'⟩
 ·rw[←h',hi]
 ·rw[hi]at h';cases h'
theorem Fz.mut{H H1:Nat→Option aR}(h:Fz H H1){i:Nat}{e:aR}(hi:H1 i=some e)(hm:e.mut):H i=some e:=by
 cases e with
 |obj=>exact h.agU hi
 |dW=>
  rcases h i with h'|⟨e',l',_,h'⟩
  ·rw[←h',hi]
  ·rw[hi]at h';cases h'
 |own=>exact h.abC hi
 |la=>simp[aR.mut]at hm
 |gone=>simp[aR.mut]at hm
theorem iF.freeze{H0 H1 Hq:Nat→Option aR}{M1:Nat→Prop}{uo uf:fF}{io:List (Nat×Ty)}{hs:List Nat}(h:iF c w M ν H0 H1 Hq M1 uo uf io hs){id:Nat}{e:Ty}{l:List e.den}(aU:H1 id=some (.own e l)):
  ∃M2,iF c w M ν H0 (bs H1 id (some (.la e l))) Hq M2 uo ((id,some (.la e l))::uf) io hs∧dp w M1 w M2∧(∀b,M2 b↔(M1 b∧ez (ν id)≠some b)):=by
 obtain⟨M2,eZ,_,DU⟩:=Tr.freeze h.mem aU
 have sL:id∉keys io:=fun hk=>by
  obtain⟨q,hq,rfl⟩:=List.mem_map.1 hk
  have:=(h.Tc q hq).1
  rw[aU]at this;cases this
 have TS:id∉keys (uo++uf):=fun hk=>h.ks id hk e l aU
 have abD:id∉keys uf:=fun hk=>TS (by simp only[keys,List.map_append,List.mem_append];exact .inr hk)
 have h0:H0 id=some (.own e l):=by rw[←h.same id TS sL];exact aU
 have hq:Hq id=some (.own e l):=h.fz.abC aU
 have mI: ∀i,i∈keys (uo++(id,some (aR.la e l))::uf)↔i=id∨i∈keys (uo++uf):=by
  intro i
  simp only[keys,List.map_append,List.map_cons,List.mem_append,List.mem_cons]
  constructor
  ·rintro(h|h|h)
   ·exact .inr (.inl h)
   ·exact .inl h
   ·exact .inr (.inr h)
  ·rintro(h|h|h)
   ·exact .inr (.inl h)
   ·exact .inl h
   ·exact .inr (.inr h)
 refine⟨M2,⟨eZ.mem,h.Ns,h.bx.trans eZ.bx,fun i hi=> ?_,h.TR,fun q pk=> ?_,h.ion,fun i hi e' l'=> ?_,fun i hi=> ?_,fun i=> ?_,h.uov,fun u hu=> ?_,h.nd,fun b hb=> ?_,h.J8,h.none,h.iob,fun i hi kk=> ?_⟩,eZ.bx,DU⟩
 ·rw[u6 _ _ abD]
  by_cases bu:i=id
  ·subst bu;rw[ak,ak]
  ·rw[an _ _ bu,an _ _ bu];exact h.ext i hi
 ·obtain⟨h1,h2,h3⟩:=h.Tc q pk
  have gi:q.1≠id:=fun e=>sL (e▸List.mem_map_of_mem pk)
  exact⟨by rw[an _ _ gi];exact h1,h2,h3⟩
 ·by_cases bu:i=id
  ·subst bu;rw[ak];intro h';cases h'
  ·rw[an _ _ bu]
   exact h.ks i (((mI i).1 hi).resolve_left bu) e' l'
 ·rcases(mI i).1 hi with rfl|hi
  ·exact⟨sL,e,l,h0⟩
  ·exact h.ksn i hi
 ·by_cases bu:i=id
  ·subst bu;exact .inr ⟨e,l,hq,ak _ _ _⟩
  ·rw[an _ _ bu];exact h.fz i
 ·rcases List.mem_cons.1 hu with rfl|hu
  ·exact⟨e,l,rfl,h0⟩
  ·exact h.ufv u hu
 ·exact(DU b).2 ⟨h.hM b hb,fun dF=>h.none b hb id _ hq trivial dF⟩
 ·have gi:i≠id:=fun e=>hi ((mI i).2 (.inl e))
  rw[an _ _ gi]
  exact h.same i (fun h'=>hi ((mI i).2 (.inr h'))) kk
theorem iF.hand{H0 H1 Hq:Nat→Option aR}{M1:Nat→Prop}{uo uf:fF}{io:List (Nat×Ty)}{hs:List Nat}(h:iF c w M ν H0 H1 Hq M1 uo uf io hs){id:Nat}{e:Ty}{l:List e.den}(aU:H1 id=some (.own e l)):
  iF c w M ν H0 (bs H1 id (some .gone)) (bs Hq id (some .gone)) M1 ((id,some .gone)::uo) uf io (hs++(ez (ν id)).toList):=by
 have sL:id∉keys io:=fun hk=>by
  obtain⟨q,hq,rfl⟩:=List.mem_map.1 hk
  have:=(h.Tc q hq).1
  rw[aU]at this;cases this
 have TS:id∉keys (uo++uf):=fun hk=>h.ks id hk e l aU
 have abD:id∉keys uo:=fun hk=>TS (by simp only[keys,List.map_append,List.mem_append];exact .inl hk)
 have h0:H0 id=some (.own e l):=by rw[←h.same id TS sL];exact aU
 have hq:Hq id=some (.own e l):=h.fz.abC aU
 have mI: ∀i,i∈keys ((id,some aR.gone)::uo++uf)↔i=id∨i∈keys (uo++uf):=by
  intro i
  simp only[keys,List.map_append,List.map_cons,List.cons_append,List.mem_append,List.mem_cons]
 have yq: ∀b,ez (ν id)=some b→b∉hs:=fun b hb dF=>h.none b dF id _ hq trivial hb
 refine⟨(Tr.gone h.mem id).mem,(Tr.gone h.Ns id).mem,h.bx,fun i hi=> ?_,fun i hi=> ?_,fun q pk=> ?_,h.ion,fun i hi e' l'=> ?_,fun i hi=> ?_,fun i=> ?_,fun u hu=> ?_,h.ufv,?_,fun b hb=> ?_,fun b hb=> ?_,fun b hb i e' hi hm=> ?_,fun b hb hb0=> ?_,fun i hi kk=> ?_⟩
 ·have:=u6 (id,some .gone) (uo++uf) TS [] H0
  simp only[List.nil_append]at this
  rw[List.cons_append,this]
  by_cases bu:i=id
  ·subst bu;rw[ak,ak]
  ·rw[an _ _ bu,an _ _ bu];exact h.ext i hi
 ·have:=u6 (id,some .gone) uo abD [] H0
  simp only[List.nil_append]at this
  rw[this]
  by_cases bu:i=id
  ·subst bu;rw[ak,ak]
  ·rw[an _ _ bu,an _ _ bu];exact h.TR i hi
 ·obtain⟨h1,h2,h3⟩:=h.Tc q pk
  have gi:q.1≠id:=fun e=>sL (e▸List.mem_map_of_mem pk)
  exact⟨by rw[an _ _ gi];exact h1,by rw[an _ _ gi];exact h2,h3⟩
 ·by_cases bu:i=id
  ·subst bu;rw[ak];intro h';cases h'
  ·rw[an _ _ bu]
   exact h.ks i (((mI i).1 hi).resolve_left bu) e' l'
 ·rcases(mI i).1 hi with rfl|hi
  ·exact⟨sL,e,l,h0⟩
  ·exact h.ksn i hi
 ·by_cases bu:i=id
  ·subst bu;left;rw[ak,ak]
  ·rw[an _ _ bu,an _ _ bu];exact h.fz i
 ·rcases List.mem_cons.1 hu with rfl|hu
  ·rfl
  ·exact h.uov u hu
 ·refine List.nodup_append.2 ⟨h.nd,?_,fun x hx y hy=> ?_⟩
  ·cases ez (ν id)<;>simp
  ·rw[Option.mem_toList]at hy
   intro hxy;subst hxy
   exact yq x hy hx
 ·rcases List.mem_append.1 hb with hb|hb
  ·exact h.hM b hb
  ·rw[Option.mem_toList]at hb
   exact(h.mem.jj id _ aU).tO trivial hb
 ·rcases List.mem_append.1 hb with hb|hb
  ·exact h.J8 b hb
  ·rw[Option.mem_toList]at hb
   exact h.mem.new id _ b aU trivial hb
 ·by_cases bu:i=id
  ·subst bu;rw[ak]at hi;cases hi;simp[aR.mut]at hm
  ·rw[an _ _ bu]at hi
   rcases List.mem_append.1 hb with hb|hb
   ·exact h.none b hb i e' hi hm
   ·rw[Option.mem_toList]at hb
    intro dF
    exact h.Ns.wg i id e' _ b bu hi hm hq trivial dF hb
 ·rcases List.mem_append.1 hb with hb|hb
  ·exact h.iob b hb hb0
  ·rw[Option.mem_toList]at hb
   exact absurd hb0 (h.mem.uE id e l b aU hb)
 ·have gi:i≠id:=fun e=>hi ((mI i).2 (.inl e))
  rw[an _ _ gi]
  exact h.same i (fun h'=>hi ((mI i).2 (.inr h'))) kk
theorem iF.abE{H0 H1 Hq:Nat→Option aR}{M1:Nat→Prop}{uo uf:fF}{io:List (Nat×Ty)}{hs:List Nat}(h:iF c w M ν H0 H1 Hq M1 uo uf io hs){id:Nat}{τ:Ty}{x:τ.den}(aU:H1 id=some (.obj τ x)):
  iF c w M ν H0 (bs H1 id (some .gone)) (bs Hq id (some .gone)) M1 uo uf (io++[(id,τ)]) (hs++(ez (ν id)).toList):=by
 have sL:id∉keys io:=fun hk=>by
  obtain⟨q,hq,rfl⟩:=List.mem_map.1 hk
  have:=(h.Tc q hq).1
  rw[aU]at this;cases this
 have hq:Hq id=some (.obj τ x):=h.fz.agU aU
 have TS:id∉keys (uo++uf):=fun hk=>by
  have h1:=h.ext id sL
  obtain⟨_,e,l,h0⟩:=h.ksn id hk
  have key: ∀(ups:fF) (H:Nat→Option aR),(∀u∈ups,u.2=some .gone∨ ∃e l,u.2=some (.la e l))→id∈keys ups→b8 H ups id=some .gone∨ ∃e l,b8 H ups id=some (.la e l):=by
   intro ups
   induction ups with
   |nil=>intro H _ hk;simp[keys]at hk
   |cons u ups ih=>
    intro H hv hk
    by_cases Td:id∈keys ups
    ·exact ih _ (fun v PO=>hv v (List.mem_cons_of_mem _ PO)) Td
    ·show b8 (bs H u.1 u.2) ups id=_∨ ∃e l,b8 (bs H u.1 u.2) ups id=_
     rw[jP Td]
     have hui:id=u.1:=by
      simp only[keys,List.map_cons,List.mem_cons]at hk Td
      exact hk.resolve_right Td
     rw[hui,ak]
     exact hv u List.mem_cons_self
  have:=key (uo++uf) H0 (fun u hu=>by
   rcases List.mem_append.1 hu with hu|hu
   ·exact .inl (h.uov u hu)
   ·obtain⟨e,l,h',_⟩:=h.ufv u hu;exact .inr ⟨e,l,h'⟩) hk
  rw[h1,aU]at this
  rcases this with h'|⟨_,_,h'⟩<;>cases h'
 have h0:H0 id=some (.obj τ x):=by rw[←h.same id TS sL];exact aU
 have mI: ∀i,i∈keys (io++[(id,τ)])↔i∈keys io∨i=id:=by
  intro i
  simp only[keys,List.map_append,List.map_cons,List.map_nil,List.mem_append,List.mem_cons,List.not_mem_nil,or_false]
 have yq: ∀b,ez (ν id)=some b→b∉hs:=fun b hb dF=>h.none b dF id _ hq trivial hb
 refine⟨(Tr.gone h.mem id).mem,(Tr.gone h.Ns id).mem,h.bx,fun i hi=> ?_,fun i hi=> ?_,fun q pk=> ?_,?_,fun i hi e' l'=> ?_,fun i hi=> ?_,fun i=> ?_,h.uov,h.ufv,?_,fun b hb=> ?_,fun b hb=> ?_,fun b hb i e' hi hm=> ?_,fun b hb hb0=> ?_,fun i hi kk=> ?_⟩
 ·rw[an _ _ (fun e=>hi ((mI i).2 (.inr e)))];exact h.ext i (fun h'=>hi ((mI i).2 (.inl h')))
 ·rw[an _ _ (fun e=>hi ((mI i).2 (.inr e)))];exact h.TR i (fun h'=>hi ((mI i).2 (.inl h')))
 ·rcases List.mem_append.1 pk with pk|pk
  ·obtain⟨h1,h2,h3⟩:=h.Tc q pk
   have gi:q.1≠id:=fun e=>sL (e▸List.mem_map_of_mem pk)
   exact⟨by rw[an _ _ gi];exact h1,by rw[an _ _ gi];exact h2,h3⟩
  ·rw[List.mem_singleton]at pk;subst pk
   exact⟨ak _ _ _,ak _ _ _,x,h0⟩
 ·simp only[keys,List.map_append,List.map_cons,List.map_nil]
  refine List.nodup_append.2 ⟨h.ion,by simp,fun x hx y hy=> ?_⟩
  rw[List.mem_singleton]at hy;subst hy
  intro e;exact sL (e▸hx)
 ·by_cases bu:i=id
  ·subst bu;rw[ak];intro h';cases h'
  ·rw[an _ _ bu];exact h.ks i hi e' l'
 ·obtain⟨h1,h2⟩:=h.ksn i hi
  exact⟨fun h'=>((mI i).1 h').elim h1 (fun e=>TS (e▸hi)),h2⟩
 ·by_cases bu:i=id
  ·subst bu;left;rw[ak,ak]
  ·rw[an _ _ bu,an _ _ bu];exact h.fz i
 ·refine List.nodup_append.2 ⟨h.nd,?_,fun x hx y hy=> ?_⟩
  ·cases ez (ν id)<;>simp
  ·rw[Option.mem_toList]at hy
   intro hxy;subst hxy
   exact yq x hy hx
 ·rcases List.mem_append.1 hb with hb|hb
  ·exact h.hM b hb
  ·rw[Option.mem_toList]at hb
   exact(h.mem.jj id _ aU).tO trivial hb
 ·rcases List.mem_append.1 hb with hb|hb
  ·exact h.J8 b hb
  ·rw[Option.mem_toList]at hb
   exact h.mem.new id _ b aU trivial hb
 ·by_cases bu:i=id
  ·subst bu;rw[ak]at hi;cases hi;simp[aR.mut]at hm
  ·rw[an _ _ bu]at hi
   rcases List.mem_append.1 hb with hb|hb
   ·exact h.none b hb i e' hi hm
   ·rw[Option.mem_toList]at hb
    intro dF
    exact h.Ns.wg i id e' _ b bu hi hm hq trivial dF hb
 ·rcases List.mem_append.1 hb with hb|hb
  ·obtain⟨q,hq1,hq2⟩:=h.iob b hb hb0
   exact⟨q,List.mem_append_left _ hq1,hq2⟩
  ·rw[Option.mem_toList]at hb
   exact⟨(id,τ),by simp,hb⟩
 ·have gi:i≠id:=fun e=>kk ((mI i).2 (.inr e))
  rw[an _ _ gi]
  exact h.same i hi (fun h'=>kk ((mI i).2 (.inl h')))
end VM
end
section
namespace VM
open Go
variable{P:Program}{E:Env}{o:Oper}{a:Act}{w:World}{M:Nat→Prop}{ν:Nat→Value}{σ:St}{c:Ctx}{α:Type}{r:α}{next:Act→World→Prop}{Q:Exit→Act→World→Prop}
theorem ph.upd{H:Nat→Option aR}{id:Nat}{e e':aR}(aU:H id=some e)(hl:e.iD e'):ph H ν (bs H id (some e')) ν:=
 ⟨fun i e1 hi=>by
  by_cases bu:i=id
  ·subst bu;rw[aU]at hi;cases hi;exact⟨e',ak _ _ _,hl⟩
  ·exact⟨e1,by rw[an _ _ bu];exact hi,.refl e1⟩,fun _ _=>rfl⟩
theorem aR.kE(e:aR):e.iD .gone:=by cases e<;>simp[aR.iD]
theorem VR.agW{H H':Nat→Option aR}{ν':Nat→Value}{a:Ty}{x:a.den}{v:Value}(h:VR w M H ν (xh a x) v):VR w M H' ν' (xh a x) v:=by
 unfold xh at h ⊢
 split at h
 ·simp only[VR]at h ⊢;exact h
 ·simp only[VR]at h ⊢;exact h
theorem fQ.free{H H':Nat→Option aR}{ν':Nat→Value}: ∀{τ:Ty} {x:τ.den} {vs:List Value},fQ w M H ν (mz τ x) vs→fQ w M H' ν' (mz τ x) vs
 | .pair a b,x,v::vs,h=>by
  simp only[mz,fQ]at h ⊢
  exact⟨VR.agW h.1,fQ.free h.2⟩
 | .pair a b,x,[],h=>by simp[mz,fQ]at h
 | .int _,_,[],_| .bool,_,[],_| .str,_,[],_| .slice _,_,[],_| .unit,_,[],_| .arr _ _,_,[],_=>by simp[mz,fQ]
 | .int _,_,_::_,h| .bool,_,_::_,h| .str,_,_::_,h| .slice _,_,_::_,h| .unit,_,_::_,h| .arr _ _,_,_::_,h=>by simp[mz,fQ]at h
theorem xu{H0 H1 Hq:Nat→Option aR}{M1:Nat→Prop}{uo uf:fF}{io:List (Nat×Ty)}{hs:List Nat}(h:iF c w M ν H0 H1 Hq M1 uo uf io hs){m:AM}{x:a6}{v:Value}(hv:VR w M1 H1 ν x v)
  {k:m.den→(Nat→Option aR)→List Nat→fF→fF→List (Nat×Ty)→Option α} (hk:ly m x H1 k=some r):
  ∃y H2 rd Fk Fl Bz Pq M2,k y H2 rd Fk Fl Bz=some r∧iF c w M ν H0 H2 Pq M2 (Fk++uo) (Fl++uf) (io++Bz) (hs++cD m v)∧dp w M1 w M2∧ph H1 ν H2 ν∧A1 w M2 m y v∧
   Bz.map (fun q=>ν q.1)=(if m.fR then [v]else [])∧Bz.map (·.2)=lC [m]:=by
 unfold ly at hk
 split at hk
 ·
  rename_i τ k
  obtain⟨y,rd,ups,hk,hy⟩:=y3 h.mem hv hk
  rcases hy with⟨rfl,hV⟩|⟨id,e,l,rfl,aU,hV⟩
  ·exact⟨y,H1,rd,[],[],[],Hq,M1,hk,by simpa [cD]using h,.refl w M1,.refl H1 ν,hV,rfl,rfl⟩
  ·obtain⟨M2,hA,hK,DU⟩:=h.freeze aU
   exact⟨y,_,rd,[],_,[],Hq,M2,hk,by simpa [cD]using hA,hK,.upd aU ⟨rfl,rfl⟩,hV M2 DU,rfl,rfl⟩
 ·
  rename_i e k
  split at hk
  ·obtain⟨ad,hv⟩:=VR.emp.1 hv
   subst hv
   have hb:ez (.slice ad 0 0)=none:=by cases ad<;>simp[ez]
   exact⟨[],H1,[],[],[],[],Hq,M1,hk,by simpa [cD,hb]using h,.refl w M1,.refl H1 ν,by simp only[A1,ER];exact .inl ⟨trivial,ad,rfl⟩,rfl,rfl⟩
  ·rename_i id
   split at hk
   ·rename_i e' l aU
    obtain⟨e1,hk⟩:=bc hk
    cases e1
    simp only[VR]at hv
    obtain⟨_,rfl⟩:=hv
    refine⟨_,_,_,_,_,_,_,M1,hk,by simpa [cD]using h.hand aU,.refl w M1,.upd aU (aR.kE _),?_,rfl,rfl⟩
    have:=h.mem.jj id _ aU
    exact this
   ·cases hk
  ·cases hk
 ·
  rename_i τ k
  split at hk
  ·rename_i id
   split at hk
   ·rename_i υ z aU
    obtain⟨e1,hk⟩:=bc hk
    subst e1
    simp only[VR]at hv
    obtain⟨e,he,kf⟩:=hv
    rw[aU]at he;cases he
    simp only[AR]at kf
    obtain⟨_,b,hb,hv⟩:=kf
    have P0:v=ν id:=by rw[hv,hb];rfl
    subst P0
    refine⟨_,_,_,_,_,_,_,M1,hk,by simpa [cD]using h.abE aU,.refl w M1,.upd aU (aR.kE _),?_,rfl,rfl⟩
    have:=h.mem.jj id _ aU
    exact this
   ·cases hk
  ·cases hk
 ·
  rename_i f τ k
  split at hk
  ·rename_i f' cs
   obtain⟨hf,hk1⟩:=bK hk
   clear hk
   have hf:=Nat.eq_of_beq_eq_true hf
   subst hf
   have hk:=hk1
   clear hk1
   simp only[VR]at hv
   obtain⟨us,rfl,TJ⟩:=hv
   obtain⟨y,rd,ups,hk,hy⟩:=zF h.mem TJ hk
   split at hk
   ·exact⟨y,H1,rd,[],[],[],Hq,M1,hk,by simpa [cD]using h,.refl w M1,.refl H1 ν,by simp only[A1,VR];exact⟨us,rfl,hy rfl⟩,rfl,rfl⟩
   ·cases hk
  ·cases hk
 ·cases hk
 ·
  rename_i τ k
  split at hk
  ·rename_i υ z
   obtain⟨e1,hk⟩:=bc hk
   subst e1
   exact⟨_,H1,_,[],[],[],Hq,M1,hk,by simpa [cD]using h,.refl w M1,.refl H1 ν,by simp only[A1,VR]at hv ⊢;exact hv,rfl,rfl⟩
  ·cases hk
theorem xv{H0:Nat→Option aR}: ∀{ms:List AM} {mG:List a6} {vs:List Value} {H1 Hq:Nat→Option aR} {M1:Nat→Prop} {rd:List Nat} {uo uf:fF} {io:List (Nat×Ty)} {hs:List Nat} {K:HP ms→List Nat→fF→fF→List (Nat×Ty)→Option α},
  iF c w M ν H0 H1 Hq M1 uo uf io hs→fQ w M1 H1 ν mG vs→pB ms mG H1 rd uo uf io K=some r→
  ∃x wu Fk Fl Bz H2 Pq M2,K x wu Fk Fl Bz=some r∧iF c w M ν H0 H2 Pq M2 Fk Fl Bz (hs++cK ms vs)∧dp w M1 w M2∧gj w M2 ms x vs∧
   Bz.map (fun q=>ν q.1)=io.map (fun q=>ν q.1)++dB ms vs∧Bz.map (·.2)=io.map (·.2)++lC ms
 |[],[],[],H1,Hq,M1,rd,uo,uf,io,hs,K,h,_,hk=>
  ⟨(),rd,uo,uf,io,H1,Hq,M1,hk,by simpa [cK]using h,.refl w M1,rfl,by simp[dB],by simp[lC]⟩
 |[m],[x],[v],H1,Hq,M1,rd,uo,uf,io,hs,K,h,hv,hk=>by
  simp only[fQ,and_true]at hv
  obtain⟨y,H2,rd1,uo1,uf1,io1,Pq,M2,hk,hA,hK,hG,hy,TT,Pr⟩:=xu h hv (hk:ly m x H1 _=some r)
  refine⟨y,_,_,_,_,H2,Pq,M2,hk,by simpa [cK]using hA,hK,⟨v,[],rfl,hy,rfl⟩,?_,?_⟩
  ·rw[List.map_append,TT];cases sL:m.fR<;>simp[dB,sL]
  ·rw[List.map_append,Pr]
 |m::n::ms,x::xs,v::vs,H1,Hq,M1,rd,uo,uf,io,hs,K,h,hv,hk=>by
  simp only[fQ]at hv
  obtain⟨y,H2,rd1,uo1,uf1,io1,Pq,M2,hk,hA,hK,hG,hy,TT,Pr⟩:=xu h hv.1 (hk:ly m x H1 _=some r)
  obtain⟨ys,wu,Fk,Fl,Bz,H3,Hq3,M3,hk,hA',hK',hys,hi3,hi4⟩:=xv (ms:=n::ms) hA (fQ.bx hK hG hv.2) hk
  refine⟨(y,ys),_,_,_,_,H3,Hq3,M3,hk,by simpa [cK,List.append_assoc]using hA',hK.trans hK',⟨v,vs,rfl,?_,hys⟩,?_,?_⟩
  ·refine A1.rQ hK' (fun b hb=>⟨rfl,hA'.hM b ?_⟩) hy
   exact List.mem_append_left _ (List.mem_append_right _ hb)
  ·rw[hi3,List.map_append,TT,List.append_assoc]
   congr 1
   cases sL:m.fR<;>simp[dB,sL]
  ·rw[hi4,List.map_append,Pr,List.append_assoc]
   congr 1
   cases m<;>simp[lC]
 |[],_::_,_,_,_,_,_,_,_,_,_,_,_,_,hk=>by simp[pB]at hk
 |[_],[],_,_,_,_,_,_,_,_,_,_,_,_,hk=>by simp[pB]at hk
 |[_],_::_::_,_,_,_,_,_,_,_,_,_,_,_,_,hk=>by simp[pB]at hk
 |_::_::_,[],_,_,_,_,_,_,_,_,_,_,_,_,hk=>by simp[pB]at hk
 |_,_::_,[],_,_,_,_,_,_,_,_,_,_,hv,_=>by simp[fQ]at hv
 |[],[],_::_,_,_,_,_,_,_,_,_,_,_,hv,_=>by simp[fQ]at hv
 |[_],[_],_::_::_,_,_,_,_,_,_,_,_,_,_,hv,_=>by simp[fQ]at hv
end VM
end
