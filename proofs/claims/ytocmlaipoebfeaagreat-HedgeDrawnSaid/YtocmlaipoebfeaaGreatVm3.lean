/- A part of the proof of HedgeDrawn of layer 22: a machine that reads a function of the program as an equation between values. -/
import Derived.Test.YtocmlaipoebfeaaGreatVm2
import Derived.Great.FillDense
set_option linter.all false
section
namespace VM
open Go
variable{P:Program}{E:Env}{o:Oper}{a:Act}{w:World}{M:Nat→Prop}{ν:Nat→Value}{σ:St}{c:Ctx}{α:Type}{r:α}{next:Act→World→Prop}{Q:Exit→Act→World→Prop}
theorem PU(off:Nat)(new:Array Value)(cs:Array Value)(h:off+new.size≤cs.size):
  (new.zipIdx.foldl (fun cs (x:Value×Nat)=>cs.setIfInBounds (off+x.2) x.1) cs)=(dv cs.toList off new.toList).toArray:=by
 have h1:new.zipIdx.foldl (fun cs (x:Value×Nat)=>cs.setIfInBounds (off+x.2) x.1) cs=(new.toList.zipIdx 0).foldl (fun cs (x:Value×Nat)=>cs.setIfInBounds (off+x.2) x.1) cs:=by
  rw[←Array.foldl_toList,Array.toList_zipIdx]
 rw[h1]
 obtain⟨hs,hk⟩:=Great.foldl_set off new.toList 0 cs
 apply Array.ext_getElem?
 intro k
 rw[hk k,←Array.getElem?_toList (xs:=cs)]
 have hl:new.toList.length=new.size:=Array.length_toList
 have hc:cs.toList.length=cs.size:=Array.length_toList
 unfold dv
 rw[List.getElem?_toArray]
 by_cases h2:k<off
 ·rw[if_neg (by omega),List.append_assoc,List.getElem?_append_left (by rw[List.length_take];omega),List.getElem?_take_of_lt h2]
 ·by_cases h3:k<off+new.size
  ·rw[if_pos (by omega),List.getElem?_append_left (by rw[List.length_append,List.length_take];omega),List.getElem?_append_right (by rw[List.length_take];omega),List.length_take]
   congr 1
   omega
  ·rw[if_neg (by omega),List.getElem?_append_right (by rw[List.length_append,List.length_take];omega),List.length_append,List.length_take,List.getElem?_drop]
   congr 1
   omega
theorem CQ{place:Nat→Option (Nat×Nat)}{cs:Array Value}{i:Nat}{v:Value}{rest:List (Nat×Value)}{off s:Nat}(hp:place i=some (off,s))(hs:v.cells.size=s)(h:off+s≤cs.size):
  Instr.fill place cs ((i,v)::rest)=Instr.fill place (dv cs.toList off v.cells.toList).toArray rest:=by
 have h1: ¬(decide (v.cells.size≠s)||decide (off+v.cells.size>cs.size))=true:=by simp[hs];omega
 conv=>lhs;unfold Instr.fill
 rw[hp]
 simp only
 rw[if_neg h1]
 congr 1
 exact PU off v.cells cs (by omega)
theorem p9(a:Act)(ps:Array (Nat×Operand)):(ps.map fun(i,x)=>(i,a.eval x)).toList=ps.toList.map fun p=>(p.1,a.eval p.2):=by
 rw[Array.toList_map]
def PR(w:World)(M:Nat→Prop)(H:Nat→Option aR)(ν:Nat→Value):List (Nat×a7)→List (Nat×Value)→Prop
 |[],[]=>True
 |p::ps,q::qs=>p.1=q.1∧VR w M H ν p.2 q.2∧PR w M H ν ps qs
 |_,_=>False
theorem PR.bP{w':World}{M':Nat→Prop}{H H':Nat→Option aR}{ν':Nat→Value}(k:du w M w' M')(g:pd H ν H' ν'): ∀{ps:List (Nat×a7)} {qs:List (Nat×Value)},PR w M H ν ps qs→PR w' M' H' ν' ps qs
 |[],[],_=>trivial
 |_::_,_::_,h=>⟨h.1,h.2.1.bP k g,PR.bP k g h.2.2⟩
 |[],_::_,h=>h.elim
 |_::_,[],h=>h.elim
theorem Core.pr(hc:Core c σ a.tmps w M ν): ∀ps:List (Nat×Operand),PR w M σ.H ν (ps.map fun p=>(p.1,σ.ρ p.2)) (ps.map fun p=>(p.1,a.eval p.2))
 |[]=>trivial
 |p::ps=>⟨rfl,hc.ev p.2,hc.pr ps⟩
theorem xA{e:Ty}{n:Nat}{H:Nat→Option aR}: ∀(ps:List (Nat×a7)) (qs:List (Nat×Value)) (H1:Nat→Option aR) (M:Nat→Prop) (l:List e.den) (cs:Array Value) (rd:List Nat) (ups:fK) (K:List e.den→List Nat→fK→Option α),
  Fz H H1→Mem c H1 w M ν→PR w M H1 ν ps qs→l.length=n→cs.size=n*e.size→nD w M e cs.toList l→H1=cc H ups→rE e H n ps l rd ups K=some r→
  ∃l' wB kO M' cs',K l' wB kO=some r∧Tr c H1 w M ν (cc H kO) w M' ν∧Fz H (cc H kO)∧l'.length=n∧cs'.size=n*e.size∧nD w M' e cs'.toList l'∧
   Instr.fill (fun i=>some (i*e.size,e.size)) cs qs=some cs':=by
 intro ps
 induction ps with
 |nil=>
  intro qs H1 M l cs rd ups K hz hm hp hl hs hr hH h
  cases qs with
  |cons _ _=>exact hp.elim
  |nil=>exact⟨l,rd,ups,M,cs,h,hH▸Tr.refl hm,hH▸hz,hl,hs,hr,rfl⟩
 |cons p ps ih=>
  intro qs H1 M l cs rd ups K hz hm hp hl hs hr hH h
  cases qs with
  |nil=>exact hp.elim
  |cons q qs=>
   obtain⟨h1,h2,h3⟩:=hp
   unfold rE at h
   obtain⟨hb,h⟩:=bM h
   have dD:p.1<n:=by simpa [Nat.blt_eq]using hb
   obtain⟨y,rd1,Kl,M1,h,fb,hV,zk,_⟩:=kR hz hm h2 h
   have hlen:(q.2.cells).size=e.size:=by rw[←Array.length_toList];exact hV.cells.length
   have hmul:=c4 (s:=e.size) dD
   have tc:=nD.set (hr.bP fb.bP) (by rw[hl,Array.length_toList,hs];exact Nat.le_refl _) (i:=p.1) (by omega) hV.cells
   obtain⟨l',wB,kO,M',cs',hK,abm,BV,FW,ZX,dw,hf⟩:=ih qs (cc H1 Kl) M1 (l.set p.1 y) (dv cs.toList (p.1*e.size) q.2.cells.toList).toArray (rd1++rd) (ups++Kl) K zk fb.mem (h3.bP fb.bP fb.goes)
    (by rw[List.length_set];exact hl) (by rw[List.size_toArray,ew (by rw[Array.length_toList,Array.length_toList];omega),Array.length_toList,hs]) tc (by rw[eg,hH]) h
   refine⟨l',wB,kO,M',cs',hK,fb.trans abm,BV,FW,ZX,dw,?_⟩
   rw[CQ (off:=p.1*e.size) (s:=e.size) (by rw[h1]) hlen (by omega)]
   exact hf
theorem Er{τ:Ty}{H:Nat→Option aR}{place:Nat→Option (Nat×Nat)}(z5: ∀(x:τ.den) n υ y o,yB τ x n υ y o→place n=some (o,υ.size)):
  ∀(ps:List (Nat×a7)) (qs:List (Nat×Value)) (H1:Nat→Option aR) (M:Nat→Prop) (x:τ.den) (cs:Array Value) (rd:List Nat) (ups:fK) (K:τ.den→List Nat→fK→Option α),
  Fz H H1→Mem c H1 w M ν→PR w M H1 ν ps qs→Rd w M τ cs.toList x→H1=cc H ups→p5 τ H ps x rd ups K=some r→
  ∃x' wB kO M' cs',K x' wB kO=some r∧Tr c H1 w M ν (cc H kO) w M' ν∧Fz H (cc H kO)∧Rd w M' τ cs'.toList x'∧Instr.fill place cs qs=some cs'∧
   ∀m υ,D9 τ m=some υ→(ps.all fun p=> !(Nat.beq p.1 m))=true→(cs'.toList.drop (om τ m)).take υ.size=(cs.toList.drop (om τ m)).take υ.size:=by
 intro ps
 induction ps with
 |nil=>
  intro qs H1 M x cs rd ups K hz hm hp hr hH h
  cases qs with
  |cons _ _=>exact hp.elim
  |nil=>exact⟨x,rd,ups,M,cs,h,hH▸Tr.refl hm,hH▸hz,hr,rfl,fun _ _ _ _=>rfl⟩
 |cons p ps ih=>
  intro qs H1 M x cs rd ups K hz hm hp hr hH h
  cases qs with
  |nil=>exact hp.elim
  |cons q qs=>
   obtain⟨h1,h2,h3⟩:=hp
   unfold p5 at h
   obtain⟨υ,y0,of,hf,h⟩:=px h
   obtain⟨y,rd1,Kl,M1,h,fb,hV,zk,_⟩:=kR hz hm h2 h
   obtain⟨υ',y',o',k',yC,gQ,zX⟩:=oL h
   obtain⟨rfl,rfl⟩:=yC.eq
   obtain⟨rfl,rfl⟩:=hf.eq
   obtain⟨e1,Es⟩:=ba gQ
   obtain⟨x',ry,_,ic⟩:=zX _ _ Es
   have hlen:(q.2.cells).size=(rm τ p.1).size:=by rw[←Array.length_toList];exact hV.cells.length
   have hb:=hf.bound
   have El:=hr.length
   rw[Array.length_toList]at El
   obtain⟨x2,wB,kO,M',cs',hK,abm,BV,dw,PL,Et⟩:=ih qs (cc H1 Kl) M1 x' (dv cs.toList (om τ p.1) q.2.cells.toList).toArray (rd1++rd) (ups++Kl) K zk fb.mem (h3.bP fb.bP fb.goes)
    (ic w M1 _ _ (hr.bP fb.bP) hV.cells) (by rw[eg,hH]) ry
   refine⟨x2,wB,kO,M',cs',hK,fb.trans abm,BV,dw,?_,fun m υ gQ gW=> ?_⟩
   ·rw[CQ (off:=om τ p.1) (s:=(rm τ p.1).size) (by rw[←h1];exact z5 _ _ _ _ _ hf) hlen (by omega)]
    exact PL
   ·rw[List.all_cons,Bool.and_eq_true]at gW
    rw[Et m υ gQ gW.2]
    obtain⟨y2,o2,hf2⟩:=py gQ x
    obtain⟨e3,e4⟩:=hf2.eq
    subst e3 e4
    have gk:p.1≠m:=fun e=>by have:=gW.1;rw[e,Nat.beq_refl]at this;cases this
    have hap:=hf.apart hf2 gk
    have tb:=hf2.bound
    show((dv cs.toList (om τ p.1) q.2.cells.toList).drop _).take _=_
    rw[Eg (by rw[Array.length_toList];omega) (by rw[Array.length_toList,Array.length_toList];omega)]
theorem dQ.places: ∀(τ:Ty) (fs:Array Field) (n off:Nat),dQ P τ (.inr (fs,n,off))→
  ∃ps,(fs.toList.drop n).mapM (fun f=>(P.info? f.type).map fun i=>(f.offset,i.size))=some ps∧ ∀(x:τ.den) m υ y o,yB τ x m υ y o→ps[m]? =some (off+o,υ.size)
 | .unit,fs,n,off,h=>by
  simp only[dQ]at h
  refine⟨[],?_,fun x m υ y o hf=>by cases hf⟩
  rw[List.drop_of_length_le (by rw[Array.length_toList];omega)];rfl
 | .pair t b,fs,n,off,h=>by
  simp only[dQ]at h
  obtain⟨f,hf,ho,ha,hb⟩:=h
  obtain⟨ps,JS,PL⟩:=dQ.places b fs (n+1) (off+t.size) hb
  obtain⟨i,hi,hs,_⟩:=(show gT P t f.type from ha).base
  have dD:n<fs.toList.length:=by rw[Array.length_toList];exact(Array.getElem?_eq_some_iff.1 hf).1
  have hfe:fs.toList[n]=f:=by rw[Array.getElem_toList];exact(Array.getElem?_eq_some_iff.1 hf).2
  refine⟨(off,t.size)::ps,?_,fun x m υ y o yC=> ?_⟩
  ·rw[List.drop_eq_getElem_cons dD,List.mapM_cons,JS,hfe,hi]
   simp[ho,hs]
  ·cases yC with
   |here=>simp
   |there _ h'=>simp[PL _ _ _ _ _ h',Nat.add_assoc]
 | .int _,_,_,_,h| .bool,_,_,_,h| .str,_,_,_,h| .slice _,_,_,_,h| .arr _ _,_,_,_,h=>by simp[dQ]at h
theorem gT.places{τ:Ty}{t:TypeId}(h:gT P τ t)(ha:τ.isAgg=true)(hn: ∀n e,τ≠ .arr n e):
  ∃fs ps,P.underlying t=some (.struct fs)∧fs.toList.mapM (fun f=>(P.info? f.type).map fun i=>(f.offset,i.size))=some ps∧ ∀(x:τ.den) m υ y o,yB τ x m υ y o→ps[m]? =some (o,υ.size):=by
 cases τ with
 |unit=>
  simp only[gT,dQ]at h
  obtain⟨_,fs,hu,hs⟩:=h
  refine⟨fs,[],hu,?_,fun x m υ y o hf=>by cases hf⟩
  have:fs.toList=[]:=List.eq_nil_of_length_eq_zero (by rw[Array.length_toList];exact hs)
  rw[this];rfl
 |pair t' b=>
  simp only[gT,dQ]at h
  obtain⟨_,fs,f,hu,hf,ho,ha',hb⟩:=h
  have hg:dQ P (.pair t' b) (.inr (fs,0,0)):=by
   simp only[dQ]
   exact⟨f,hf,ho,ha',by simpa using hb⟩
  obtain⟨ps,JS,PL⟩:=dQ.places _ fs 0 0 hg
  exact⟨fs,ps,hu,JS,fun x m υ y o yC=>by simpa using PL x m υ y o yC⟩
 |arr n e=>exact absurd rfl (hn n e)
 |int _=>simp[Ty.isAgg]at ha
 |bool=>simp[Ty.isAgg]at ha
 |str=>simp[Ty.isAgg]at ha
 |slice _=>simp[Ty.isAgg]at ha
theorem u9{ρ:Operand→Value}{t:TypeId}{ps:Array (Nat×Operand)}(ho:o.op= .build t ps){v:Value}(h:(Instr.build t (ps.map fun(i,x)=>(i,ρ x))).run P w= .ok v w):(execOp ρ o).run P w= .ok (.value v) w:=by
 simp[execOp,ho,h]
theorem vb{ρ:Operand→Value}{t:TypeId}{n:Nat}{ps:Array (Nat×Operand)}(ho:o.op= .buildSlice t n ps){v:Value}{w':World}(h:(Instr.buildSlice t n (ps.map fun(i,x)=>(i,ρ x))).run P w= .ok v w'):(execOp ρ o).run P w= .ok (.value v) w':=by
 simp[execOp,ho,h]
theorem VR.Mk{H:Nat→Option aR}{τ:Ty}(ha:τ.isAgg=true){cs:Array Value}{x:τ.den}(h:Rd w M τ cs.toList x):VR w M H ν (.val τ x) (.agg cs):=by
 simp only[VR,V];rw[if_pos ha];exact⟨cs,rfl,h⟩
theorem Eu(hE:EnvTy P E)(hc:Core c σ a.tmps w M ν){t:TypeId}{ps:Array (Nat×Operand)}(ho:o.op= .build t ps){K:fL α}{n:Nat}{e:Ty}(ht:E.ty t=some (.arr n e))
  (h:rE e σ.H n (partsOf σ.ρ ps) (List.replicate n e.zero) [] [] (fun l rd ups=>K (.val (.arr n e) l) rd ups)=some r) (hn:eb c σ a o w M ν K r next):o.wp P a w next Q:=by
 have hl:=hE.ty t _ ht
 obtain⟨e',hu,hle⟩:=hl.arr
 obtain⟨i,hi,hs,hz,_⟩:=hl.base
 obtain⟨ie,hie,hes,_⟩:=hle.base
 have hr0:=Rd.arr.1 (Rd.zero w M (.arr n e))
 obtain⟨l',wB,kO,M',cs',hK,fb,BV,FW,ZX,dw,hf⟩:=xA (partsOf σ.ρ ps) (ps.toList.map fun(p:Nat×Operand)=>(p.1,a.eval p.2)) σ.H M (List.replicate n e.zero) (Ty.cr (.arr n e)).toArray [] [] _ (.refl _) hc.mem (hc.pr ps.toList)
  (by rw[List.length_replicate]) (by rw[List.size_toArray];exact hr0.2.1) hr0.2.2 rfl h
 refine aM (u9 ho (run_build w t _ cs' ?_)) (hn _ _ _ _ _ _ _ hK fb (VR.Mk rfl (Rd.arr.2 ⟨FW,by rw[Array.length_toList];exact ZX,dw⟩)))
 unfold Program.built
 rw[hi,hu]
 simp only[hz,hie,hes,p9]
 exact hf
theorem yK(hE:EnvTy P E)(hc:Core c σ a.tmps w M ν){t:TypeId}{ps:Array (Nat×Operand)}(ho:o.op= .build t ps){K:fL α}{τ:Ty}(ht:E.ty t=some τ)(ZY: ∀n e,τ≠ .arr n e)
  (h:cond τ.isAgg (p5 τ σ.H (partsOf σ.ρ ps) τ.zero [] [] (fun l rd ups=>K (Ts E (partsOf σ.ρ ps) τ l) rd ups)) none=some r) (hn:eb c σ a o w M ν K r next):o.wp P a w next Q:=by
 obtain⟨Gl,h⟩:=bM h
 have hl:=hE.ty t _ ht
 obtain⟨fs,pl,hu,JS,z5⟩:=hl.places Gl ZY
 obtain⟨i,hi,hs,hz,_⟩:=hl.base
 obtain⟨l',wB,kO,M',cs',hK,fb,BV,dw,hf,Et⟩:=Er (place:=(pl.toArray[·]?)) (fun x n υ y o hf=>by simpa using z5 x n υ y o hf) (partsOf σ.ρ ps) (ps.toList.map fun(p:Nat×Operand)=>(p.1,a.eval p.2)) σ.H M τ.zero τ.cr.toArray [] [] _ (.refl _) hc.mem (hc.pr ps.toList)
  (Rd.zero w M τ) rfl h
 have hvr:VR w M' (cc σ.H kO) ν (Ts E (partsOf σ.ρ ps) τ l') (.agg cs'):=by
  unfold Ts
  split
  ·rename_i n e pB
   cases gW:(partsOf σ.ρ ps).all fun p=> !(Nat.beq p.1 n)
   ·exact VR.Mk Gl dw
   ·have hq:=Mf pB
    show VR w M' (cc σ.H kO) ν (.Ea τ l' n) (.agg cs')
    have hv:=VR.Mk (H:=cc σ.H kO) (ν:=ν) Gl dw
    simp only[VR]at hv ⊢
    refine⟨hv,cs',none,rfl,?_⟩
    have hfq:D9 τ n=some (.slice e):=by
     unfold eL at hq
     split at hq
     ·rename_i a ha
      rw[ha]
      have:=of_decide_eq_true hq
      rw[this]
     ·cases hq
    have h2:=Et n _ hfq gW
    have h3:=CL hq
    simp only[bO,Nat.add_zero]at h3
    have h4:=congrArg (fun l=>l[0]?) h2
    simp only[List.getElem?_take,List.getElem?_drop,Nat.add_zero]at h4
    rw[if_pos (show 0<(Ty.slice e).size from Nat.one_pos),if_pos (show 0<(Ty.slice e).size from Nat.one_pos)]at h4
    rw[h4];exact h3
  ·exact VR.Mk Gl dw
 refine aM (u9 ho (run_build w t _ cs' ?_)) (hn _ _ _ _ _ _ _ hK fb hvr)
 unfold Program.built
 rw[hi,hu]
 have hzc:(bT τ τ.cr).cells=τ.cr.toArray:=by apply Array.ext';rw[eR]
 simp only[hz,JS,p9,hzc]
 exact hf
theorem Ca(hE:EnvTy P E)(hc:Core c σ a.tmps w M ν){t:TypeId}{n:Nat}{ps:Array (Nat×Operand)}(ho:o.op= .buildSlice t n ps){K:fL α}{e:Ty}(ht:E.ty t=some (.slice e)){id:Nat}
  (h:cond (Nat.ble (n*(e.size+1)) 16777216) (nx σ.H id (.own e []) (rE e σ.H n (partsOf σ.ρ ps) (List.replicate n e.zero) [] [] fun l rd ups=>K (.ref id) (id::rd) (ups++[(id,some (.own e l))]))) none=some r)
  (hn:eb c σ a o w M ν K r next):o.wp P a w next Q:=by
 obtain⟨hb,h⟩:=bM h
 obtain⟨aU,h⟩:=iB h
 have hb:=Nat.le_of_ble_eq_true hb
 rw[Nat.mul_add,Nat.mul_one]at hb
 obtain⟨e',hu,hle⟩:=(hE.ty t _ ht).slice
 obtain⟨ie,hie,hes,hz,_⟩:=hle.base
 obtain⟨l',wB,kO,M',cs',hK,fb,BV,FW,ZX,dw,hf⟩:=xA (partsOf σ.ρ ps) (ps.toList.map fun(p:Nat×Operand)=>(p.1,a.eval p.2)) σ.H M (List.replicate n e.zero) (madeCells (bT e e.cr).cells (n*e.size)) [] [] _ (.refl _) hc.mem (hc.pr ps.toList)
  (by rw[List.length_replicate]) (size_madeCells _ _) (nD.made w M e (Nat.le_refl _)) rfl h
 have aba:cc σ.H kO id=none:=BV.none aU
 have rL:=fb.trans (Tr.row fb.mem aba e' (e:=e) (cs:=cs') (l:=l') (cap:=n) (by omega) (by simp[maxLen];omega) ZX dw)
 have cO:(Instr.buildSlice t n (ps.map fun(i,x)=>(i,a.eval x))).run P w= .ok (.slice (some ⟨w.heap.size,0,none⟩) n n) (w.alloc (.cells cs' e')):=by
  by_cases h0:n*e.size=0
  ·rw[h0]at hf
   have hm0:madeCells (bT e e.cr).cells 0=(Array.range 0).map fun i:Nat=>(#[]:Array Value)[i%0]! :=by simp[madeCells]
   rw[hm0]at hf
   rw[←p9]at hf
   simp[Instr.buildSlice,run_underlying hu,Go.sizeOf,typeInfo,hie,hes,h0,newRow]at hf ⊢
   simp[hf]
  ·refine run_buildSlice w t e' n _ cs' ie _ hu hie hz (by rw[hes];omega) (by rw[hes];exact h0) ?_
   rw[hes,p9]
   exact hf
 refine aM (vb ho cO) (hn _ _ _ _ _ (fun b=>M' b∨b=w.heap.size) (cB ν id (.slice (some ⟨w.heap.size,0,none⟩) l'.length n)) hK ?_ ?_)
 ·rw[eg];exact rL
 ·simp only[VR]
  exact⟨by rw[eg];show bu _ id _ id≠none;rw[ak];simp,by simp[cB,FW]⟩
end VM
end
section
namespace VM
open Go
variable{P:Program}{E:Env}{o:Oper}{a:Act}{w:World}{M:Nat→Prop}{ν:Nat→Value}{σ:St}{c:Ctx}{α:Type}{r:α}{next:Act→World→Prop}{Q:Exit→Act→World→Prop}
def S3(o:Option Value)(d l:Int):Prop:=(o=none∧l=d)∨ ∃k,o=some (.int k l)
theorem nF(hc:Core c σ a.tmps w M ν){x:Option Operand}{d:Int}{k:Int→Option α}(h:tP (x.map σ.ρ) d k=some r): ∃l,k l=some r∧S3 (x.map a.eval) d l:=by
 cases x with
 |none=>exact⟨d,h,.inl ⟨rfl,rfl⟩⟩
 |some x=>
  obtain⟨i,n,hx,h⟩:=jV (h:rC (σ.ρ x) (fun _ x=>k x)=some r)
  have hv:=hc.ev x
  rw[hx]at hv
  exact⟨n,h,.inr ⟨i,by rw[←hv.int];rfl⟩⟩
theorem q5{s:Bool}{len cap:Nat}{lo hi mx:Option Value}{l h m:Int}(yL:S3 lo 0 l)(FX:S3 hi len h)(PV:S3 mx cap m)(hm:mx.isNone=true∨hi.isSome=true)
  (h0:0≤l) (h1:l≤h) (h2:h≤m) (h3:m≤cap):(Instr.sliceBounds s len cap lo hi mx).run P w= .ok (l.toNat,h.toNat,m.toNat) w:=by
 have hb: ∀(k:IntKind) (i:Int) (y:Nat) cd,0≤i→i≤y→(Instr.sliceBound (.int k i) y cd).run P w= .ok i.toNat w:=by
  intro k i y cd h1 h2
  simp[Instr.sliceBound,asIntOf,h1,h2]
 have gQ:((m.toNat:Nat):Int)=m:=by omega
 have JT:((h.toNat:Nat):Int)=h:=by omega
 rcases PV with⟨rfl,rfl⟩|⟨km,rfl⟩
 ·rcases FX with⟨rfl,rfl⟩|⟨kh,rfl⟩
  ·rcases yL with⟨rfl,rfl⟩|⟨kl,rfl⟩
   ·simp[Instr.sliceBounds]
   ·simp[Instr.sliceBounds,hb kl l len _ h0 h1]
  ·rcases yL with⟨rfl,rfl⟩|⟨kl,rfl⟩
   ·simp[Instr.sliceBounds,hb kh h cap _ (by omega) h2]
   ·simp[Instr.sliceBounds,hb kh h cap _ (by omega) h2,hb kl l h.toNat _ h0 (by omega)]
 ·rcases FX with⟨rfl,rfl⟩|⟨kh,rfl⟩
  ·simp at hm
  ·rcases yL with⟨rfl,rfl⟩|⟨kl,rfl⟩
   ·simp[Instr.sliceBounds,hb km m cap _ (by omega) h3,hb kh h m.toNat _ (by omega) (by omega)]
   ·simp[Instr.sliceBounds,hb km m cap _ (by omega) h3,hb kh h m.toNat _ (by omega) (by omega),hb kl l h.toNat _ h0 (by omega)]
theorem Cb{ρ:Operand→Value}{t:TypeId}{x:Operand}{lo hi mx:Option Operand}(ho:o.op= .slice t x lo hi mx){s:ByteArray}{l h:Int}(hu:P.underlying t=some .string)(hx:ρ x= .string s)
  (yL:S3 (lo.map ρ) 0 l) (FX:S3 (hi.map ρ) s.size h) (PV:mx.isNone=true) (h0:0≤l) (h1:l≤h) (h2:h≤s.size):(execOp ρ o).run P w= .ok (.value (.string (s.extract l.toNat h.toNat))) w:=by
 have hm:mx=none:=by simpa using PV
 subst hm
 have hb:=q5 (P:=P) (w:=w) (s:=false) yL FX (.inl ⟨rfl,rfl⟩) (.inl rfl) h0 h1 h2 (Int.le_refl _)
 simp[execOp,ho,hx,Instr.sliceAt,Instr.slice,run_underlying hu,hb]
theorem qa{ρ:Operand→Value}{t e:TypeId}{x:Operand}{lo hi mx:Option Operand}(ho:o.op= .slice t x lo hi mx){τ:Ty}{ad:Option Addr}{len cap:Nat}{l h m:Int}(hu:P.underlying t=some (.slice e))(hle:gT P τ e)(hx:ρ x= .slice ad len cap)
  (yL:S3 (lo.map ρ) 0 l) (FX:S3 (hi.map ρ) len h) (PV:S3 (mx.map ρ) cap m) (hm:(mx.map ρ).isNone=true∨(hi.map ρ).isSome=true) (h0:0≤l) (h1:l≤h) (h2:h≤m) (h3:m≤cap):
  (execOp ρ o).run P w= .ok (.value (.slice (if m.toNat=l.toNat then ad else ad.map (·.add (l.toNat*τ.size))) (h.toNat-l.toNat) (m.toNat-l.toNat))) w:=by
 have hb:=q5 (P:=P) (w:=w) (s:=true) yL FX PV hm h0 h1 h2 h3
 simp[execOp,ho,hx,Instr.sliceAt,Instr.slice,run_underlying hu,hb,cq hle]
theorem xB{x:Option Operand}(h:iO x=true)(a:Act): ∃k,x.map a.eval=some (.int k 0):=by
 unfold iO at h
 split at h
 ·rename_i k n
  have:n=0:=by simpa using h
  subst this
  exact⟨k,rfl⟩
 ·cases h
theorem Rd.cut{e:Ty}{ad:Option Addr}{len cap:Nat}{x:List e.den}(h:Rd w M (.slice e) [.slice ad len cap] x){l hh m:Int}(h0:0≤l)(h1:l≤hh)(h2:hh≤m)(hl:hh≤x.length):
  Rd w M (.slice e) [.slice (if m.toNat=l.toNat then ad else ad.map (·.add (l.toNat*e.size))) (hh.toNat-l.toNat) (m.toNat-l.toNat)] (List.drop l.toNat (List.take hh.toNat x)):=by
 simp only[Rd,List.cons.injEq,and_true]at h ⊢
 obtain⟨a',jW,hv,hc,hr⟩:=h
 cases hv
 have hlen:List.length (List.drop l.toNat (List.take hh.toNat x))=hh.toNat-l.toNat:=by rw[List.length_drop,List.length_take];omega
 refine⟨_,_,by rw[hlen],by rw[hlen];omega,fun i hi=> ?_⟩
 rw[hlen]at hi
 obtain⟨b,off,ha,hb,hm,cs,ll,ic⟩:=hr (l.toNat+i) (by omega)
 rw[if_neg (by omega)]
 refine⟨b,off+l.toNat*e.size,by rw[ha];simp[Addr.add_lit],hb,hm,cs,?_,?_⟩
 ·rw[show off+l.toNat*e.size+i*e.size=off+(l.toNat+i)*e.size from by rw[Nat.add_mul];omega];exact ll
 ·simp only[List.get_eq_getElem,List.getElem_drop,List.getElem_take]at ic ⊢
  exact ic
theorem VR.emp{H:Nat→Option aR}{v:Value}:VR w M H ν .emp v↔ ∃ad,v= .slice ad 0 0:=by simp[VR]
theorem PW(hE:EnvTy P E)(hc:Core c σ a.tmps w M ν){t:TypeId}{x:Operand}{lo hi mx:Option Operand}(ho:o.op= .slice t x lo hi mx){K:fL α}{τ:Ty}(ht:E.ty t=some τ)
  (h:nA τ (lo.isNone&&iO hi&&iO mx) (σ.ρ x) (lo.map σ.ρ) (hi.map σ.ρ) (mx.map σ.ρ) σ.H K=some r) (hn:eb c σ a o w M ν K r next):o.wp P a w next Q:=by
 have u5:=hE.ty t τ ht
 have hv:=hc.ev x
 have hz0: ∀(e:Ty) (e':TypeId) (ad:Option Addr) (len cap:Nat),P.underlying t=some (.slice e')→gT P e e'→a.eval x= .slice ad len cap→(lo.isNone&&iO hi&&iO mx)=true→
   ∃ad',(execOp a.eval o).run P w= .ok (.value (.slice ad' 0 0)) w:=by
  intro e e' ad len cap hu hle hx hz
  simp only[Bool.and_eq_true]at hz
  obtain⟨⟨h1,h2⟩,h3⟩:=hz
  have h1:lo=none:=by simpa using h1
  subst h1
  obtain⟨k2,h2⟩:=xB h2 a
  obtain⟨k3,h3⟩:=xB h3 a
  have:=qa (P:=P) (w:=w) ho hu hle hx (l:=0) (h:=0) (m:=0) (.inl ⟨rfl,rfl⟩) (.inr ⟨k2,h2⟩) (.inr ⟨k3,h3⟩) (.inr (by rw[h2];rfl)) (by omega) (by omega) (by omega) (by omega)
  exact⟨_,this⟩
 unfold nA at h
 split at h
 ·rename_i s hx
  obtain⟨hm,h⟩:=bM h
  obtain⟨l,h,yL⟩:=nF hc h
  obtain⟨hh,h,FX⟩:=nF hc h
  obtain⟨hk,h⟩:=bM h
  rw[uS]at hk
  obtain⟨h0,h1,h2,h3⟩:=of_decide_eq_true hk
  rw[hx]at hv
  exact aM (Cb ho u5.str hv.str yL FX (by simpa using hm) h0 h1 h2) (hn _ [] [] _ _ _ _ h (.refl hc.mem) (.mkStr _))
 ·rename_i e hx
  obtain⟨e',hu,hle⟩:=u5.slice
  rw[hx]at hv
  obtain⟨ad,hv⟩:=VR.emp.1 hv
  cases hz:(lo.isNone&&iO hi&&iO mx)
  ·rw[hz]at h
   replace h:cond (mx.map σ.ρ).isNone (tP (lo.map σ.ρ) 0 fun l=>tP (hi.map σ.ρ) 0 fun h=>cond (gw l h 0 0) (K .emp [] []) none) none=some r:=h
   obtain⟨hm,h⟩:=bM h
   obtain⟨l,h,yL⟩:=nF hc h
   obtain⟨hh,h,FX⟩:=nF hc h
   obtain⟨hk,hK⟩:=bM h
   rw[uS]at hk
   obtain⟨h0,h1,h2,h3⟩:=of_decide_eq_true hk
   have gQ:mx=none:=by simpa using hm
   subst gQ
   have:=qa (P:=P) (w:=w) ho hu hle hv yL FX (.inl ⟨rfl,rfl⟩) (.inl rfl) h0 h1 (m:=0) (by omega) (by omega)
   refine aM this (hn _ [] [] _ _ _ _ hK (.refl hc.mem) (VR.emp.2 ?_))
   rw[show hh.toNat-l.toNat=0 from by omega,show(0:Int).toNat-l.toNat=0 from by omega]
   exact⟨_,rfl⟩
  ·rw[hz]at h
   obtain⟨ad',cO⟩:=hz0 e e' ad 0 0 hu hle hv hz
   exact aM cO (hn _ [] [] _ _ _ _ h (.refl hc.mem) (VR.emp.2 ⟨_,rfl⟩))
 ·rename_i e gk
  obtain⟨e',hu,hle⟩:=u5.slice
  cases hz:(lo.isNone&&iO hi&&iO mx)
  ·rw[hz]at h
   obtain⟨y,rd,ups,M',h,fb,hV,_⟩:=kR (.refl _) hc.mem hv h
   replace h:cond ((mx.map σ.ρ).isNone||(hi.map σ.ρ).isSome) (tP (lo.map σ.ρ) 0 fun l=>tP (hi.map σ.ρ) (List.length y:Int) fun h=>tP (mx.map σ.ρ) (List.length y:Int) fun m=>
    cond (gw l h m (List.length y:Int)) (K (.val (.slice e) (List.drop l.toNat (List.take h.toNat y))) rd ups) none) none=some r:=h
   obtain⟨hm,h⟩:=bM h
   obtain⟨l,h,yL⟩:=nF hc h
   obtain⟨hh,h,FX⟩:=nF hc h
   obtain⟨m,h,PV⟩:=nF hc h
   obtain⟨hk,h⟩:=bM h
   rw[uS]at hk
   obtain⟨h0,h1,h2,h3⟩:=of_decide_eq_true hk
   have hr:=V.slice.1 hV
   have dw:=hr
   simp only[Rd,List.cons.injEq,and_true]at dw
   obtain⟨ad,cap,hx,agK,_⟩:=dw
   rw[hx]at hr
   have gQ:(mx.map a.eval).isNone=true∨(hi.map a.eval).isSome=true:=by
    simp only[Bool.or_eq_true,Option.isNone_map,Option.isSome_map]at hm ⊢;exact hm
   have abp: ∃m',S3 (mx.map a.eval) cap m'∧hh≤m'∧m'≤cap:=by
    rcases PV with⟨h9,_⟩|⟨k,h9⟩
    ·exact⟨cap,.inl ⟨h9,rfl⟩,by omega,Int.le_refl _⟩
    ·exact⟨m,.inr ⟨k,h9⟩,h2,by omega⟩
   obtain⟨m',abp,h4,h5⟩:=abp
   have cO:=qa (P:=P) (w:=w) ho hu hle hx yL FX abp gQ h0 h1 h4 h5
   refine aM cO (hn _ _ _ _ _ M' _ h fb ?_)
   simp only[VR]
   exact V.slice.2 (hr.cut h0 h1 h4 (by omega))
  ·rw[hz]at h
   obtain⟨y,rd,h,hS⟩:=xw hc.mem hv h
   obtain⟨ad,cap,hx,_⟩:=hS
   obtain⟨ad',cO⟩:=hz0 e e' ad _ cap hu hle hx hz
   exact aM cO (hn _ _ [] _ _ _ _ h (.refl hc.mem) (VR.emp.2 ⟨_,rfl⟩))
 ·cases h
end VM
end
section
namespace VM
open Go
variable{P:Program}{E:Env}{o:Oper}{a:Act}{w:World}{M:Nat→Prop}{ν:Nat→Value}{σ:St}{c:Ctx}{α:Type}{r:α}{next:Act→World→Prop}{Q:Exit→Act→World→Prop}
theorem oM{t ty e:TypeId}{i:TypeInfo}(ht:P.underlying t=some (.slice e))(hi:P.info? e=some i)(base:Option Addr)(n cap:Nat)(h:n≤cap)(a':Option Addr)(cp:Nat):
  (Builtin.append_ #[t,t] ty #[.slice base n cap,.slice a' 0 cp]).run P w= .ok (.slice base n cap) w:=by
 cases a'<;>cases base<;>simp[Builtin.append_,run_underlying ht,Go.sizeOf,typeInfo,hi,Builtin.lenOf,h,Builtin.firstCells,loadCells,loadCellsFrom,storeCells]
theorem Gx{t ty e te:TypeId}{i:TypeInfo}(ht:P.underlying t=some (.slice e))(hi:P.info? e=some i){b n cap m cp:Nat}{a':Addr}{news:List Value}{cs:Array Value}
  (hg:w.heap[b]? =some (.cells cs te (0,0))) (hs:cs.size=cap*i.size) (hl:news.length=m*i.size) (hn: ∀j u,news[j]? =some u→w.cell? (a'.add j)=some u) (h1: ∀u∈news,u.oneCell'=true) (hr:n+m≤cap):
  (Builtin.append_ #[t,t] ty #[.slice (some ⟨b,0,none⟩) n cap,.slice (some a') m cp]).run P w= .ok (.slice (some ⟨b,0,none⟩) (n+m) cap) (w.setRow b (dv cs.toList (n*i.size) news).toArray):=by
 have hf:=run_firstCells_some (P:=P) w i.size m a' m cp news hl hn
 have hm:(n+m)*i.size≤cap*i.size:=Nat.mul_le_mul_right _ hr
 rw[Nat.add_mul]at hm
 have JQ:=run_storeCells_at (P:=P) b (n*i.size) te news 0 cs w hg (by omega) h1
 simp only[Nat.add_zero]at JQ
 simp[Builtin.append_,run_underlying ht,Go.sizeOf,typeInfo,hi,Builtin.lenOf,hr,hf,Addr.add_lit,JQ,dv]
theorem eY{args:Array Operand}{t:TypeId}{x y:Operand}{v:Value}{w':World}(ho:o.op= .call {callee:= .builtin .append,args,argTypes:= #[t,t]})(ha:args.toList=[x,y])
  (h:(Builtin.append_ #[t,t] o.type #[a.eval x,a.eval y]).run P w= .ok v w'):(execOp a.eval o).run P w= .ok (.value v) w':=by
 obtain⟨cs,hr⟩:=nC (P:=P) (ρ:=a.eval) ho (w:=w)
 rw[hr]
 have:args.map a.eval= #[a.eval x,a.eval y]:=by apply Array.ext';simp[ha]
 rw[this]
 simp[builtin,h]
theorem z6{H:Nat→Option aR}(hm:Mem c H w M ν){id:Nat}(aU:H id=none){t ty:TypeId}{e':TypeId}{e:Ty}(hu:P.underlying t=some (.slice e'))(hle:gT P e e')
  {xs ys:List e.den} {olds news:List Value} {base:Option Addr} {cap cp:Nat} {a':Addr} (PX:base=none→xs=[]∧cap=0)
  (yL:olds.length=xs.length*e.size) (hro:nD w M e olds xs) (ho: ∀b,base=some b→ ∀j u,olds[j]? =some u→w.cell? (b.add j)=some u)
  (S4:news.length=ys.length*e.size) (hrn:nD w M e news ys) (hn: ∀j u,news[j]? =some u→w.cell? (a'.add j)=some u)
  (hg:cap<xs.length+ys.length) (hs:xs.length+ys.length<uM):
  ∃v w' M' ν',(Builtin.append_ #[t,t] ty #[.slice base xs.length cap,.slice (some a') ys.length cp]).run P w= .ok v w'∧Tr c H w M ν (bu H id (some (.own e (xs++ys)))) w' M' ν'∧ν' id=v:=by
 obtain⟨i,hi,pY,hz,hby⟩:=hle.base
 have hzs:(bT e e.cr).cells.size=e.size:=by rw[←Array.length_toList,eR,lq]
 have ZZ:xs.length+ys.length≤maxLen:=by simp only[uM,maxLen]at hs ⊢;omega
 have Gy:(xs.length+ys.length)*i.bytes≤140737488355328:=by
  have:(xs.length+ys.length)*i.bytes≤68719476736*2048:=Nat.mul_le_mul (by simp only[uM]at hs;omega) hby
  omega
 have cO: ∃jW rest,(Builtin.append_ #[t,t] ty #[.slice base xs.length cap,.slice (some a') ys.length cp]).run P w= .ok (.slice (some ⟨w.heap.size,0,none⟩) (xs.length+ys.length) jW) (w.drew.alloc (.cells (olds++news++rest).toArray e'))∧
   xs.length+ys.length≤jW∧jW≤maxLen∧rest.length=(jW-(xs.length+ys.length))*e.size:=by
  refine⟨grownCap w (xs.length+ys.length) cap e',(Builtin.zeroCells (bT e e.cr).cells (grownCap w (xs.length+ys.length) cap e'-(xs.length+ys.length))).toList,?_,grownCap_ge _ _ _ _,grownCap_le_maxLen _ _ _ _ ZZ,?_⟩
  ·cases base with
   |none=>
    obtain⟨rfl,rfl⟩:=PX rfl
    have ho0:olds=[]:=List.eq_nil_of_length_eq_zero (by rw[yL];simp)
    subst ho0
    have:=run_append_nil (P:=P) w t ty e' i _ hu hi hz a' ys.length cp news (by rw[S4,pY]) hn (by simpa using hg) (by simp only[uM]at hs;omega) (by simp at Gy;omega)
    simp only[List.length_nil,Nat.zero_add,List.nil_append]
    rw[this]
    congr 2
    apply congrArg (fun z=>Obj.cells z e' (0,0))
    apply Array.ext';simp
   |some b=>
    have:=run_append_grow (P:=P) w t ty e' i _ hu hi hz b xs.length cap olds (by rw[yL,pY]) (ho b rfl) a' ys.length cp news (by rw[S4,pY]) hn hg (by simp only[uM]at hs;omega) (growslice_fits hg Gy)
    rw[this]
    congr 2
    apply congrArg (fun z=>Obj.cells z e' (0,0))
    apply Array.ext';simp
  ·rw[Array.length_toList,size_zeroCells,hzs]
 obtain⟨jW,rest,cO,Es,hc2,agP⟩:=cO
 have hlen:(xs++ys).length=xs.length+ys.length:=List.length_append
 have hd:=Tr.drew hm
 have hon:(olds++news).length=(xs++ys).length*e.size:=by rw[List.length_append,yL,S4,hlen,Nat.add_mul]
 have Km:=Tr.row hd.mem aU e' (e:=e) (cs:=(olds++news++rest).toArray) (l:=xs++ys) (cap:=jW) (by rw[hlen];exact Es) hc2
  (by rw[List.size_toArray,List.length_append,hon,agP,hlen,←Nat.add_mul];congr 1;omega)
  (nD.more ((hro.append yL hrn).bP hd.bP) (by rw[hon];exact Nat.le_refl _))
 refine⟨_,_,_,_,cO,hd.trans Km,?_⟩
 rw[←hlen];simp[cB]
theorem NC(hE:EnvTy P E)(hc:Core c σ a.tmps w M ν){args:Array Operand}{ts:Array TypeId}{t t':TypeId}{x y:Operand}(ho:o.op= .call {callee:= .builtin .append,args,argTypes:=ts})(ha:args.toList=[x,y])(hts:ts.toList=[t,t']){K:fL α}{e:Ty}
  (ht:E.ty t=some (.slice e)) {id:Nat} (h:cond (Nat.beq t t') (nx σ.H id (.own e []) (Gd id e (σ.ρ x) (σ.ρ y) σ.H K)) none=some r) (hn:eb c σ a o w M ν K r next):o.wp P a w next Q:=by
 obtain⟨htt,h1⟩:=bM h
 clear h
 have htt:=Nat.eq_of_beq_eq_true htt
 subst htt
 obtain⟨aU,h⟩:=iB h1
 clear h1
 have amU:ts= #[t,t]:=by apply Array.ext';simpa using hts
 subst amU
 obtain⟨e',hu,hle⟩:=(hE.ty t _ ht).slice
 obtain⟨i,hi,pY,hz,hby⟩:=hle.base
 have Ep:=hc.ev x
 unfold Gd at h
 obtain⟨ys,rd,h,hS⟩:=xw hc.mem (hc.ev y) h
 have abt:(ys=[]∧ ∃a' cp,a.eval y= .slice a' 0 cp)∨(ys≠[]∧ ∃a' cp news,a.eval y= .slice (some a') ys.length cp∧news.length=ys.length*e.size∧(∀j u,news[j]? =some u→w.cell? (a'.add j)=some u)∧nD w M e news ys∧ ∀u∈news,u.oneCell'=true):=by
  by_cases hy:ys=[]
  ·left
   obtain⟨a',cp,hv,_⟩:=hS
   exact⟨hy,a',cp,by rw[hv,hy];rfl⟩
  ·right
   obtain⟨b,off,cp,news,hv,hl,ll,ic,h1⟩:=hS.cells hy
   exact⟨hy,⟨b,off,none⟩,cp,news,hv,hl,fun j u hj=>by rw[Addr.add_lit];exact ll j u hj,ic,h1⟩
 split at h
 ·
  rename_i hx
  rw[hx]at Ep
  obtain⟨ad,Ep⟩:=VR.emp.1 Ep
  obtain⟨S5,h⟩:=bM h
  rw[zK]at S5
  have S5:=of_decide_eq_true S5
  rcases abt with⟨rfl,a',cp,yH⟩|⟨hy,a',cp,news,yH,hl,ll,ic,h1⟩
  ·refine aM (eY ho ha (by rw[Ep,yH];exact oM hu hi ad 0 0 (Nat.le_refl _) a' cp)) (hn _ _ _ _ _ _ _ h (Tr.nothing hc.mem aU e ad) ?_)
   simp only[VR]
   exact⟨by show bu _ id _ id≠none;rw[ak];simp,by simp[cB]⟩
  ·have Ko:0<ys.length:=List.length_pos_iff.2 hy
   obtain⟨v,w',M',ν',cO,fb,hv⟩:=z6 (P:=P) (ty:=o.type) hc.mem aU hu hle (xs:=[]) (ys:=ys) (olds:=[]) (news:=news) (base:=ad) (cap:=0) (cp:=cp) (a':=a') (fun _=>⟨rfl,rfl⟩) (by simp) (fun i hi=>absurd hi (by simp)) (fun _ _ j u hj=>by simp at hj)
    hl ic ll (by simpa using Ko) (by simpa using S5)
   refine aM (eY ho ha (by rw[Ep,yH];exact cO)) (hn _ _ _ _ _ _ _ h fb ?_)
   simp only[VR]
   exact⟨by show bu _ id _ id≠none;rw[ak];simp,hv.symm⟩
 ·
  rename_i j hx
  rw[hx]at Ep
  simp only[VR]at Ep
  obtain⟨_,Ep⟩:=Ep
  split at h
  ·rename_i e1 l hj
   obtain⟨e2,h⟩:=ba h
   cases e2
   obtain⟨S5,h⟩:=bM h
   rw[zK]at S5
   have S5:l.length+ys.length<uM:=of_decide_eq_true S5
   have gk:id≠j:=fun e=>by rw[e,hj]at aU;cases aU
   have mj:bu σ.H j (some .gone) id=none:=by rw[an _ _ gk];exact aU
   have JU:=Tr.gone hc.mem j
   have jD:=hc.mem.jk j _ hj
   simp only[ER]at jD
   rcases jD with⟨rfl,ad,hjv⟩|⟨b,cs,te,cap,hjv,hg,hM,Pp,hl,zO,hs,hr⟩
   ·rw[hjv]at Ep
    rcases abt with⟨rfl,a',cp,yH⟩|⟨hy,a',cp,news,yH,hl,ll,ic,h1⟩
    ·refine aM (eY ho ha (by rw[Ep,yH];exact oM hu hi ad 0 0 (Nat.le_refl _) a' cp)) (hn _ _ _ _ _ _ _ h (JU.trans (Tr.nothing JU.mem mj e ad)) ?_)
     simp only[VR]
     exact⟨by show bu _ id _ id≠none;rw[ak];simp,by simp[cB]⟩
    ·have Ko:0<ys.length:=List.length_pos_iff.2 hy
     obtain⟨v,w',M',ν',cO,fb,hv⟩:=z6 (P:=P) (ty:=o.type) JU.mem mj hu hle (xs:=[]) (ys:=ys) (olds:=[]) (news:=news) (base:=ad) (cap:=0) (cp:=cp) (a':=a') (fun _=>⟨rfl,rfl⟩) (by simp) (fun i hi=>absurd hi (by simp)) (fun _ _ j u hj=>by simp at hj)
      hl ic ll (by simpa using Ko) (by simpa using S5)
     refine aM (eY ho ha (by rw[Ep,yH];exact cO)) (hn _ _ _ _ _ _ _ h (JU.trans fb) ?_)
     simp only[VR]
     exact⟨by show bu _ id _ id≠none;rw[ak];simp,hv.symm⟩
   ·rw[hjv]at Ep
    have El:cs.toList.length=cap*e.size:=by rw[Array.length_toList,hs]
    have Kp:l.length*e.size≤cap*e.size:=Nat.mul_le_mul_right _ hl
    rcases abt with⟨rfl,a',cp,yH⟩|⟨hy,a',cp,news,yH,S4,ll,ic,h1⟩
    ·refine aM (eY ho ha (by rw[Ep,yH];exact oM hu hi _ _ cap hl a' cp)) (hn _ _ _ _ _ M (cB ν id (ν j)) h ?_ ?_)
     ·refine Tr.rename hc.mem hj aU (.inr rfl) ?_
      rw[List.append_nil]
      exact hc.mem.jk j _ hj
     ·simp only[VR]
      exact⟨by show bu _ id _ id≠none;rw[ak];simp,by simp[cB,hjv]⟩
    ·by_cases vd:l.length+ys.length≤cap
     ·have hmul:(l.length+ys.length)*e.size≤cap*e.size:=Nat.mul_le_mul_right _ vd
      rw[Nat.add_mul]at hmul
      have cO:=Gx (P:=P) (ty:=o.type) hu hi (w:=w) (b:=b) (n:=l.length) (cap:=cap) (m:=ys.length) (cp:=cp) (a':=a') (news:=news) (cs:=cs) hg (by rw[hs,pY]) (by rw[S4,pY]) ll h1 vd
      rw[pY]at cO
      have TA:dv cs.toList (l.length*e.size) news=(cs.toList.take (l.length*e.size)++news)++cs.toList.drop (l.length*e.size+news.length):=rfl
      have hold:nD w M e (cs.toList.take (l.length*e.size)) l:=nD.take hr (Nat.le_refl _)
      have htl:(cs.toList.take (l.length*e.size)).length=l.length*e.size:=by rw[List.length_take];omega
      have Z0:nD w M e (dv cs.toList (l.length*e.size) news) (l++ys):=by
       rw[TA]
       refine nD.more (hold.append htl ic) ?_
       rw[List.length_append,List.length_append,htl,S4,Nat.add_mul];exact Nat.le_refl _
      have hsl:(dv cs.toList (l.length*e.size) news).length=cap*e.size:=by rw[ew (by omega)];exact El
      have TI:Tr c σ.H w M ν (bu σ.H j (some (.own e l))) (w.setRow b (dv cs.toList (l.length*e.size) news).toArray) M ν:=by
       refine Tr.write (e':= .own e l) hc.mem hj trivial trivial (.refl _) (by rw[hjv];simp[eD];omega) hg fun JP hk wG=> ?_
       simp only[ER]
       refine .inr ⟨b,_,te,cap,hjv,setRow_heap w b cs _ te _ hg,wG,Pp,hl,zO,by rw[List.size_toArray];exact hsl,fun k zX=> ?_⟩
       have:=(Z0 k (by rw[List.length_append];omega)).bP hk
       rw[List.getElem_append_left zX]at this
       exact this
      rw[wE hj]at TI
      have rL:Tr c σ.H (w.setRow b (dv cs.toList (l.length*e.size) news).toArray) M ν (bu (bu σ.H j (some .gone)) id (some (.own e (l++ys)))) (w.setRow b (dv cs.toList (l.length*e.size) news).toArray) M (cB ν id (.slice (some ⟨b,0,none⟩) (l++ys).length cap)):=by
       refine Tr.rename TI.mem hj aU (.inr (by rw[hjv];simp[eD])) ?_
       simp only[ER]
       refine .inr ⟨b,_,te,cap,rfl,setRow_heap w b cs _ te _ hg,hM,Pp,by rw[List.length_append];exact vd,zO,by rw[List.size_toArray];exact hsl,(Z0.bP TI.bP)⟩
      refine aM (eY ho ha (by rw[Ep,yH];exact cO)) (hn _ _ _ _ _ _ _ h (TI.trans rL) ?_)
      simp only[VR]
      exact⟨by show bu _ id _ id≠none;rw[ak];simp,by simp[cB]⟩
     ·obtain⟨v,w',M',ν',cO,fb,hv⟩:=z6 (P:=P) (ty:=o.type) JU.mem mj hu hle (xs:=l) (ys:=ys) (olds:=cs.toList.take (l.length*e.size)) (news:=news) (base:=some ⟨b,0,none⟩) (cap:=cap) (cp:=cp) (a':=a') (fun h=>by cases h)
       (by rw[List.length_take];omega) (nD.take hr (Nat.le_refl _)) (fun b' dJ k u hk=>by
        cases dJ
        rw[Addr.add_lit,cell_of hg]
        rw[List.getElem?_take]at hk
        split at hk
        ·rw[←Array.getElem?_toList];simpa using hk
        ·cases hk)
       S4 ic ll (by omega) S5
      refine aM (eY ho ha (by rw[Ep,yH];exact cO)) (hn _ _ _ _ _ _ _ h (JU.trans fb) ?_)
      simp only[VR]
      exact⟨by show bu _ id _ id≠none;rw[ak];simp,hv.symm⟩
  ·cases h
 ·cases h
end VM
end
section
namespace VM
open Go
variable{P:Program}{E:Env}{o:Oper}{a:Act}{w:World}{M:Nat→Prop}{ν:Nat→Value}{σ:St}{c:Ctx}{α:Type}{r:α}{next:Act→World→Prop}{Q:Exit→Act→World→Prop}
def rz:{m:AM}→{ms:List AM}→HP (m::ms)→m.den
 |_,[],x=>x
 |_,_::_,x=>x.1
def wv:{m:AM}→{ms:List AM}→HP (m::ms)→HP ms
 |_,[],_=>()
 |_,_::_,x=>x.2
def AM.fU:AM→Bool
 | .io _=>true
 |_=>false
def AM.TJ:AM→Bool
 | .fn _ _| .fR _=>true
 |_=>false
def A1(w:World)(M:Nat→Prop):(m:AM)→m.den→Value→Prop
 | .v τ,x,v=>V w M τ v x
 | .own e,x,v=>ER w M v (.own e x)
 | .io τ,x,v=>ER w M v (.obj τ x)
 | .fn f τ,x,v=>VR w M (fun _=>none) (fun _=>undef) (.F8 f (mM τ x)) v
 | .ptr τ,x,v=>ER w M v (.obj τ x)
 | .fR τ,x,v=>VR w M (fun _=>none) (fun _=>undef) (.nw τ x) v
def gl(w:World)(M:Nat→Prop):(ms:List AM)→HP ms→List Value→Prop
 |[],_,vs=>vs=[]
 |_::ms,x,vs=> ∃v FY,vs=v::FY∧A1 w M _ (rz x) v∧gl w M ms (wv x) FY
def cI:AM→Value→List Nat
 | .own _,v| .io _,v| .ptr _,v=>(eD v).toList
 |_,_=>[]
def cR:List AM→List Value→List Nat
 |m::ms,v::vs=>cI m v++cR ms vs
 |_,_=>[]
def dG:List AM→List Value→List Value
 |m::ms,v::vs=>if m.fU then v::dG ms vs else dG ms vs
 |_,_=>[]
def lI:List AM→List Ty
 | .io τ::ms=>τ::lI ms
 |_::ms=>lI ms
 |[]=>[]
def RR(w:World)(M:Nat→Prop):(ms:List AM)→HP ms→List Value→List Value→Prop
 |[],_,vs,ps=>vs=[]∧ps=[]
 |m::ms,x,vs,ps=>(∃p Cc,m.fU=true∧ps=p::Cc∧A1 w M m (rz x) p∧RR w M ms (wv x) vs Cc)∨
  (∃v FY,m.fU=false∧m.TJ=false∧vs=v::FY∧A1 w M m (rz x) v∧RR w M ms (wv x) FY ps)
def bf:List AM→List Value→List Value→List Nat
 |[],_,_=>[]
 |m::ms,vs,ps=>if m.fU then cI m (ps.headD undef)++bf ms vs ps.tail else cI m (vs.headD undef)++bf ms vs.tail ps
def Ty.flat:Ty→Bool
 | .slice _=>false
 | .pair a b=>a.flat&&b.flat
 | .arr _ e=>e.flat
 |_=>true
def AM.flat:AM→Bool
 | .v τ| .io τ| .own τ| .ptr τ=>τ.flat
 | .fn _ _| .fR _=>false
def rP(vs:List Value):Value:=if h:vs.length=1 then vs[0]else .tuple vs.toArray
structure Left(w:World)(M0:Nat→Prop)(hs:List Nat)(w':World)(M':Nat→Prop):Prop where
 sub: ∀b,M0 b→M' b
 zN: ∀b,M' b→b<w'.heap.size
 less: ∀b,b<w.heap.size→M' b→M0 b∨b∈hs
 frame: ∀b,b<w.heap.size→b∉hs→w'.heap[b]? =w.heap[b]?
 size:w.heap.size≤w'.heap.size
 os:w'.os=w.os
 tape:w'.tape=w.tape
 output:w'.output=w.output
def Gz(P:Program)(f:FuncId)(args:Array Value)(w:World)(R:Value→World→Prop):Prop:=
 ∀(o:Oper) (a:Act) (next:Act→World→Prop) (Q:Exit→Act→World→Prop),(∀v w',R v w'→next (a.put o.dst v) w')→o.upon P a next Q ((callFunc f args).run P w)
theorem Gz.mono{f:FuncId}{args:Array Value}{R R':Value→World→Prop}(h:Gz P f args w R)(hr: ∀v w',R v w'→R' v w'):Gz P f args w R':=
 fun o a next Q hn=>h o a next Q fun v w' hv=>hn v w' (hr v w' hv)
theorem pe{f:FuncId}{fn:Func}{args:Array Value}{R:Value→World→Prop}(hf:P.funcs[f]? =some fn)(hn:(fn.name== "runtime.NumGoroutine")=false)(hb:fn.body.isNone=false)
  (h:Calls P f args w fun e w'=> ∃v,e= .returned v∧R v w'):Gz P f args w R:=by
 intro o a next Q tB
 have hn': ¬fn.name= "runtime.NumGoroutine" :=by simpa using hn
 have dJ: ¬fn.body=none:=fun e=>by rw[e]at hb;cases hb
 have:(callFunc f args).run P w= .ok (.enter f args) w:=by simp[callFunc,hf,hn',dJ]
 rw[this,Oper.upon_enter]
 refine Calls.mono h ?_
 rintro e w' ⟨v,rfl,hR⟩
 exact tB v w' hR
theorem Cd{f:FuncId}{args:Array Value}{R:Value→World→Prop}{v:Value}{w':World}(h:(callFunc f args).run P w= .ok (.value v) w')(hR:R v w'):Gz P f args w R:=by
 intro o a next Q tB
 rw[h,Oper.upon_value]
 exact tB v w' hR
structure fc(P:Program)(f:FuncId)(S:iz):Prop where
 quiet:S.quiet=true→S.res.all AM.flat=true
 ios:lI S.args=lI S.res
 call: ∀(M0:Nat→Prop) (w:World) (vs:List Value) (x:HP S.args) (y:HP S.res),(∀b,M0 b→b<w.heap.size)→
  gl w (fun b=>M0 b∨b∈cR S.args vs) S.args x vs→(cR S.args vs).Nodup→(∀b∈cR S.args vs,¬M0 b)→S.run x=some y→
  Gz P f vs.toArray w fun v w'=> ∃us M',v=rP us∧RR w' M' S.res y us (dG S.args vs)∧Left w M0 (cR S.args vs) w' M'∧
   (bf S.res us (dG S.args vs)).Nodup∧ ∀b∈bf S.res us (dG S.args vs),¬M0 b
theorem Rd.flat{w:World}{M M':Nat→Prop}: ∀{τ:Ty} {cs:List Value} {x:τ.den},τ.flat=true→Rd w M τ cs x→Rd w M' τ cs x
 | .int _,_,_,_,h| .bool,_,_,_,h| .str,_,_,_,h| .unit,_,_,_,h=>h
 | .slice _,_,_,hf,_=>by simp[Ty.flat]at hf
 | .pair a b,_,_,hf,h=>by
  simp only[Ty.flat,Bool.and_eq_true]at hf
  simp only[Rd]at h ⊢
  obtain⟨c1,c2,rfl,h1,h2⟩:=h
  exact⟨c1,c2,rfl,h1.flat hf.1,h2.flat hf.2⟩
 | .arr n e,_,x,hf,h=>by
  simp only[Ty.flat]at hf
  simp only[Rd]at h ⊢
  obtain⟨hn,Ns,hc,rfl,hr⟩:=h
  exact⟨hn,Ns,hc,rfl,fun i hi lG=>(hr i hi lG).flat hf⟩
theorem A1.flat{w:World}{M M':Nat→Prop}(hM: ∀b,M b→M' b){m:AM}{x:m.den}{v:Value}(hf:m.flat=true)(h:A1 w M m x v):A1 w M' m x v:=by
 cases m with
 |v τ=>
  simp only[A1,V,AM.flat]at h hf ⊢
  split
  ·rename_i ha;rw[if_pos ha]at h;obtain⟨cs,h1,h⟩:=h;exact⟨cs,h1,h.flat hf⟩
  ·rename_i ha;rw[if_neg ha]at h;exact h.flat hf
 |own e=>
  simp only[A1,ER,AM.flat]at h hf ⊢
  rcases h with h|⟨b,cs,t,cap,h1,h2,h3,h4,h5,h6,h7,h8⟩
  ·exact .inl h
  ·exact .inr ⟨b,cs,t,cap,h1,h2,hM b h3,h4,h5,h6,h7,fun i hi=>(h8 i hi).flat hf⟩
 |io τ=>
  simp only[A1,ER,AM.flat]at h hf ⊢
  obtain⟨b,cs,t,h1,h2,h3,h4⟩:=h
  exact⟨b,cs,t,h1,h2,hM b h3,h4.flat hf⟩
 |fn f τ=>simp[AM.flat]at hf
 |fR τ=>simp[AM.flat]at hf
 |ptr τ=>
  simp only[A1,ER,AM.flat]at h hf ⊢
  obtain⟨b,cs,t,h1,h2,h3,h4⟩:=h
  exact⟨b,cs,t,h1,h2,hM b h3,h4.flat hf⟩
theorem RR.flat{w:World}{M M':Nat→Prop}(hM: ∀b,M b→M' b): ∀{ms:List AM} {x:HP ms} {vs ps:List Value},ms.all AM.flat=true→RR w M ms x vs ps→RR w M' ms x vs ps
 |[],_,_,_,_,h=>h
 |m::ms,x,vs,ps,hf,h=>by
  simp only[List.all_cons,Bool.and_eq_true]at hf
  simp only[RR]at h ⊢
  rcases h with⟨p,Cc,h1,h2,h3,h4⟩|⟨v,FY,h1,h2,h3,h4,h5⟩
  ·exact .inl ⟨p,Cc,h1,h2,h3.flat hM hf.1,RR.flat hM hf.2 h4⟩
  ·exact .inr ⟨v,FY,h1,h2,h3,h4.flat hM hf.1,RR.flat hM hf.2 h5⟩
theorem A1.rQ{w w':World}{M M':Nat→Prop}(k:du w M w' M'){m:AM}{x:m.den}{v:Value}(hm: ∀b∈cI m v,w'.heap[b]? =w.heap[b]? ∧M' b)(h:A1 w M m x v):A1 w' M' m x v:=by
 cases m with
 |v τ=>exact V.bP k h
 |own e=>
  simp only[A1]at h ⊢
  exact ER.bP k (fun _ b hb=>hm b (by simp[cI,hb])) h
 |io τ=>
  simp only[A1]at h ⊢
  exact ER.bP k (fun _ b hb=>hm b (by simp[cI,hb])) h
 |fn f τ=>exact VR.bP k (.refl _ _) h
 |fR τ=>exact VR.bP k (.refl _ _) h
 |ptr τ=>
  simp only[A1]at h ⊢
  exact ER.bP k (fun _ b hb=>hm b (by simp[cI,hb])) h
theorem gl.rQ{w w':World}{M M':Nat→Prop}(k:du w M w' M'): ∀{ms:List AM} {x:HP ms} {vs:List Value},(∀b∈cR ms vs,w'.heap[b]? =w.heap[b]? ∧M' b)→gl w M ms x vs→gl w' M' ms x vs
 |[],_,_,_,h=>h
 |m::ms,x,vs,hm,h=>by
  simp only[gl]at h ⊢
  obtain⟨v,FY,rfl,h1,h2⟩:=h
  exact⟨v,FY,rfl,h1.rQ k (fun b hb=>hm b (by simp[cR,hb])),gl.rQ k (fun b hb=>hm b (by simp[cR,hb])) h2⟩
theorem RR.rQ{w w':World}{M M':Nat→Prop}(k:du w M w' M'): ∀{ms:List AM} {x:HP ms} {us ps:List Value},(∀b∈bf ms us ps,w'.heap[b]? =w.heap[b]? ∧M' b)→RR w M ms x us ps→RR w' M' ms x us ps
 |[],_,_,_,_,h=>h
 |m::ms,x,us,ps,hm,h=>by
  simp only[RR]at h ⊢
  rcases h with⟨p,Cc,h1,rfl,h2,h3⟩|⟨v,Ev,h1,h2,rfl,h3,h4⟩
  ·simp only[bf,h1,if_true,List.headD_cons,List.tail_cons,List.mem_append]at hm
   exact .inl ⟨p,Cc,h1,rfl,h2.rQ k (fun b hb=>hm b (.inl hb)),RR.rQ k (fun b hb=>hm b (.inr hb)) h3⟩
  ·simp only[bf,h1,Bool.false_eq_true,if_false,List.headD_cons,List.tail_cons,List.mem_append]at hm
   exact .inr ⟨v,Ev,h1,h2,rfl,h3.rQ k (fun b hb=>hm b (.inl hb)),RR.rQ k (fun b hb=>hm b (.inr hb)) h4⟩
theorem zl{H:Nat→Option aR}(hm:Mem c H w M ν){a:a7}{v:Value}(hv:VR w M H ν a v){τ:Ty}{k:τ.den→List Nat→fK→Option α}{r:α}(h:iT true a H τ k=some r):
  ∃y rd ups,k y rd ups=some r∧((ups=[]∧V w M τ v y)∨ ∃id e l,ups=[(id,some (.lj e l))]∧H id=some (.own e l)∧
   ∀M',(∀b,M' b↔(M b∧eD (ν id)≠some b))→V w M' τ v y):=by
 unfold iT at h
 split at h
 ·obtain⟨e,h⟩:=ba h
  subst e
  simp only[VR]at hv
  exact⟨_,[],[],h,.inl ⟨rfl,hv⟩⟩
 ·obtain⟨e,h⟩:=ba h
  subst e
  simp only[VR]at hv
  exact⟨_,[],[],h,.inl ⟨rfl,hv.1⟩⟩
 ·split at h
  ·rename_i e k' _
   simp only[VR]at hv
   obtain⟨a,rfl⟩:=hv
   refine⟨[],[],[],h,.inl ⟨rfl,V.slice.2 ?_⟩⟩
   simp only[Rd]
   exact⟨a,0,rfl,Nat.le_refl _,fun i hi=>absurd hi (by simp)⟩
  ·cases h
 ·rename_i id
  simp only[VR]at hv
  obtain⟨_,rfl⟩:=hv
  split at h
  ·rename_i e l aU
   obtain⟨e',h⟩:=ba h
   subst e'
   refine⟨_,_,_,h,.inr ⟨id,e,l,rfl,aU,fun M' hM'=> ?_⟩⟩
   obtain⟨M2,_,hV,Ek⟩:=Tr.freeze hm aU
   have:M'=M2:=by funext b;exact propext ((hM' b).trans (Ek b).symm)
   rw[this];exact hV
  ·rename_i e l aU
   obtain⟨e',h⟩:=ba h
   subst e'
   have:=hm.jk id _ aU
   simp only[ER]at this
   exact⟨_,_,_,h,.inl ⟨rfl,V.slice.2 this.1⟩⟩
  ·cases h
 ·cases h
theorem PY{H:Nat→Option aR}(hm:Mem c H w M ν): ∀{a:Ty} {x:a7} {v:Value} {k:a.den→List Nat→fK→Option α} {r:α},VR w M H ν x v→xq x H a k=some r→
  ∃y rd ups,k y rd ups=some r∧(ups=[]→VR w M (fun _=>none) (fun _=>undef) (xr a y) v):=by
 intro a x v k r hv h
 unfold xq at h
 split at h
 ·rename_i a k
  split at h
  ·rename_i υ z
   obtain⟨e1,h⟩:=ba h
   subst e1
   refine⟨_,_,_,h,fun _=> ?_⟩
   simp only[xr,VR]at hv ⊢
   exact hv
  ·cases h
 ·rename_i k0 pC
  obtain⟨y,rd,ups,h,hy⟩:=zl hm hv h
  refine⟨y,rd,ups,h,fun hu=> ?_⟩
  rcases hy with⟨_,hy⟩|⟨_,_,_,h3,_⟩
  ·have:xr _ y= .val _ y:=by
    unfold xr
    split
    ·exact(pC _ _ rfl HEq.rfl).elim
    ·rfl
   rw[this]
   simp only[VR];exact hy
  ·rw[hu]at h3;cases h3
theorem z7{H:Nat→Option aR}(hm:Mem c H w M ν): ∀{τ:Ty} {mR:List a7} {vs:List Value} {k:τ.den→List Nat→fK→Option α} {r:α},fT w M H ν mR vs→ny H τ mR k=some r→
  ∃x rd ups,k x rd ups=some r∧(ups=[]→fT w M (fun _=>none) (fun _=>undef) (mM τ x) vs)
 | .unit,[],[],k,r,_,h=>⟨(),[],[],h,fun _=>by simp[mM,fT]⟩
 | .pair a b,x::xs,v::vs,k,r,hv,h=>by
  simp only[fT]at hv
  unfold ny at h
  obtain⟨y,rd,ups,h,hy⟩:=PY hm hv.1 h
  obtain⟨ys,wB,kO,h,hys⟩:=z7 hm hv.2 h
  refine⟨(y,ys),_,_,h,fun hu=> ?_⟩
  have h1:ups=[]:=(List.append_eq_nil_iff.1 hu).1
  have h2:kO=[]:=(List.append_eq_nil_iff.1 hu).2
  simp only[mM,fT]
  exact⟨hy h1,hys h2⟩
 | .unit,[],_::_,_,_,hv,_=>by simp[fT]at hv
 |_,_::_,[],_,_,hv,_=>by simp[fT]at hv
 | .unit,_::_,_,_,_,_,h=>by simp[ny]at h
 | .pair _ _,[],_,_,_,_,h=>by simp[ny]at h
 | .int _,_,_,_,_,_,h| .bool,_,_,_,_,_,h| .str,_,_,_,_,_,h| .slice _,_,_,_,_,_,h| .arr _ _,_,_,_,_,_,h=>by simp[ny]at h
end VM
end
section
namespace VM
open Go
variable{P:Program}{E:Env}{o:Oper}{a:Act}{w:World}{M:Nat→Prop}{ν:Nat→Value}{σ:St}{c:Ctx}{α:Type}{r:α}{next:Act→World→Prop}{Q:Exit→Act→World→Prop}
def keys{β:Type}(l:List (Nat×β)):List Nat:=l.map (·.1)
theorem jX{i:Nat}: ∀{ups:fK} {H:Nat→Option aR},i∉keys ups→cc H ups i=H i
 |[],_,_=>rfl
 |u::r,H,h=>by
  simp only[keys,List.map_cons,List.mem_cons,not_or]at h
  show cc (bu H u.1 u.2) r i=_
  rw[jX h.2,an _ _ h.1]
theorem ve(u:Nat×Option aR)(b:fK)(hb:u.1∉keys b): ∀(a:fK) (H:Nat→Option aR),cc H (a++u::b)=bu (cc H (a++b)) u.1 u.2
 |[],H=>by
  show cc (bu H u.1 u.2) b=bu (cc H b) u.1 u.2
  induction b generalizing H with
  |nil=>rfl
  |cons v b ih=>
   simp only[keys,List.map_cons,List.mem_cons,not_or]at hb
   show cc (bu (bu H u.1 u.2) v.1 v.2) b=bu (cc (bu H v.1 v.2) b) u.1 u.2
   rw[←ih hb.2]
   congr 1
   funext i
   by_cases h1:i=v.1
   ·subst h1;rw[ak,an _ _ (Ne.symm hb.1),ak]
   ·by_cases h2:i=u.1
    ·subst h2;rw[an _ _ h1,ak,ak]
    ·rw[an _ _ h1,an _ _ h2,an _ _ h2,an _ _ h1]
 |v::a,H=>ve u b hb a (bu H v.1 v.2)
structure iC(c:Ctx)(w:World)(M:Nat→Prop)(ν:Nat→Value)(H0 H1 Hq:Nat→Option aR)(M1:Nat→Prop)(uo uf:fK)(io:List (Nat×Ty))(hs:List Nat):Prop where
 mem:Mem c H1 w M1 ν
 ND:Mem c Hq w M ν
 bP:du w M w M1
 ext: ∀i,i∉keys io→cc H0 (uo++uf) i=H1 i
 TK: ∀i,i∉keys io→cc H0 uo i=Hq i
 S6: ∀q∈io,H1 q.1=some .gone∧Hq q.1=some .gone∧ ∃x,H0 q.1=some (.obj q.2 x)
 ion:(keys io).Nodup
 ks: ∀i∈keys (uo++uf),∀e l,H1 i≠some (.own e l)
 ksn: ∀i∈keys (uo++uf),i∉keys io∧ ∃e l,H0 i=some (.own e l)
 fz:Fz Hq H1
 uov: ∀u∈uo,u.2=some .gone
 ufv: ∀u∈uf,∃e l,u.2=some (.lj e l)∧H0 u.1=some (.own e l)
 nd:hs.Nodup
 hM: ∀b∈hs,M1 b
 Kq: ∀b∈hs,c.B≤b∨c.may b
 none: ∀b∈hs,∀i e,Hq i=some e→e.mut→eD (ν i)≠some b
 iob: ∀b∈hs,c.M0 b→ ∃q∈io,eD (ν q.1)=some b
 same: ∀i,i∉keys (uo++uf)→i∉keys io→H1 i=H0 i
theorem iC.start{H:Nat→Option aR}(hm:Mem c H w M ν):iC c w M ν H H H M [] [] [] []:=
 ⟨hm,hm,.refl w M,fun _ _=>rfl,fun _ _=>rfl,fun q hq=>by simp at hq,by simp[keys],fun i hi=>by simp[keys]at hi,fun i hi=>by simp[keys]at hi,.refl H,fun u hu=>by simp at hu,fun u hu=>by simp at hu,by simp,fun b hb=>by simp at hb,fun b hb=>by simp at hb,fun b hb=>by simp at hb,fun b hb=>by simp at hb,fun _ _ _=>rfl⟩
theorem Fz.abv{H H1:Nat→Option aR}(h:Fz H H1){i:Nat}{e:Ty}{l:List e.den}(hi:H1 i=some (.own e l)):H i=some (.own e l):=by
 rcases h i with h'|⟨e',l',_,h'⟩
 ·rw[←h',hi]
 ·rw[hi]at h';cases h'
theorem Fz.agU{H H1:Nat→Option aR}(h:Fz H H1){i:Nat}{e:Ty}{l:e.den}(hi:H1 i=some (.obj e l)):H i=some (.obj e l):=by
 rcases h i with h'|⟨e',l',_,h'⟩
 ·rw[←h',hi]
 ·rw[hi]at h';cases h'
theorem Fz.mut{H H1:Nat→Option aR}(h:Fz H H1){i:Nat}{e:aR}(hi:H1 i=some e)(hm:e.mut):H i=some e:=by
 cases e with
 |obj=>exact h.agU hi
 |ed=>
  rcases h i with h'|⟨e',l',_,h'⟩
  ·rw[←h',hi]
  ·rw[hi]at h';cases h'
 |own=>exact h.abv hi
 |lj=>simp[aR.mut]at hm
 |gone=>simp[aR.mut]at hm
theorem iC.freeze{H0 H1 Hq:Nat→Option aR}{M1:Nat→Prop}{uo uf:fK}{io:List (Nat×Ty)}{hs:List Nat}(h:iC c w M ν H0 H1 Hq M1 uo uf io hs){id:Nat}{e:Ty}{l:List e.den}(aU:H1 id=some (.own e l)):
  ∃M2,iC c w M ν H0 (bu H1 id (some (.lj e l))) Hq M2 uo ((id,some (.lj e l))::uf) io hs∧du w M1 w M2∧(∀b,M2 b↔(M1 b∧eD (ν id)≠some b)):=by
 obtain⟨M2,fb,_,Ek⟩:=Tr.freeze h.mem aU
 have sM:id∉keys io:=fun hk=>by
  obtain⟨q,hq,rfl⟩:=List.mem_map.1 hk
  have:=(h.S6 q hq).1
  rw[aU]at this;cases this
 have TL:id∉keys (uo++uf):=fun hk=>h.ks id hk e l aU
 have abw:id∉keys uf:=fun hk=>TL (by simp only[keys,List.map_append,List.mem_append];exact .inr hk)
 have h0:H0 id=some (.own e l):=by rw[←h.same id TL sM];exact aU
 have hq:Hq id=some (.own e l):=h.fz.abv aU
 have mT: ∀i,i∈keys (uo++(id,some (aR.lj e l))::uf)↔i=id∨i∈keys (uo++uf):=by
  intro i
  simp only[keys,List.map_append,List.map_cons,List.mem_append,List.mem_cons]
  constructor
  ·rintro(h|h|h)
   ·exact .inr (.inl h)
   ·exact .inl h
   ·exact .inr (.inr h)
  ·rintro(h|h|h)
   ·exact .inr (.inl h)
   ·exact .inl h
   ·exact .inr (.inr h)
 refine⟨M2,⟨fb.mem,h.ND,h.bP.trans fb.bP,fun i hi=> ?_,h.TK,fun q ot=> ?_,h.ion,fun i hi e' l'=> ?_,fun i hi=> ?_,fun i=> ?_,h.uov,fun u hu=> ?_,h.nd,fun b hb=> ?_,h.Kq,h.none,h.iob,fun i hi lG=> ?_⟩,fb.bP,Ek⟩
 ·rw[ve _ _ abw]
  by_cases bB:i=id
  ·subst bB;rw[ak,ak]
  ·rw[an _ _ bB,an _ _ bB];exact h.ext i hi
 ·obtain⟨h1,h2,h3⟩:=h.S6 q ot
  have gk:q.1≠id:=fun e=>sM (e▸List.mem_map_of_mem ot)
  exact⟨by rw[an _ _ gk];exact h1,h2,h3⟩
 ·by_cases bB:i=id
  ·subst bB;rw[ak];intro h';cases h'
  ·rw[an _ _ bB]
   exact h.ks i (((mT i).1 hi).resolve_left bB) e' l'
 ·rcases(mT i).1 hi with rfl|hi
  ·exact⟨sM,e,l,h0⟩
  ·exact h.ksn i hi
 ·by_cases bB:i=id
  ·subst bB;exact .inr ⟨e,l,hq,ak _ _ _⟩
  ·rw[an _ _ bB];exact h.fz i
 ·rcases List.mem_cons.1 hu with rfl|hu
  ·exact⟨e,l,rfl,h0⟩
  ·exact h.ufv u hu
 ·exact(Ek b).2 ⟨h.hM b hb,fun dJ=>h.none b hb id _ hq trivial dJ⟩
 ·have gk:i≠id:=fun e=>hi ((mT i).2 (.inl e))
  rw[an _ _ gk]
  exact h.same i (fun h'=>hi ((mT i).2 (.inr h'))) lG
theorem iC.hand{H0 H1 Hq:Nat→Option aR}{M1:Nat→Prop}{uo uf:fK}{io:List (Nat×Ty)}{hs:List Nat}(h:iC c w M ν H0 H1 Hq M1 uo uf io hs){id:Nat}{e:Ty}{l:List e.den}(aU:H1 id=some (.own e l)):
  iC c w M ν H0 (bu H1 id (some .gone)) (bu Hq id (some .gone)) M1 ((id,some .gone)::uo) uf io (hs++(eD (ν id)).toList):=by
 have sM:id∉keys io:=fun hk=>by
  obtain⟨q,hq,rfl⟩:=List.mem_map.1 hk
  have:=(h.S6 q hq).1
  rw[aU]at this;cases this
 have TL:id∉keys (uo++uf):=fun hk=>h.ks id hk e l aU
 have abw:id∉keys uo:=fun hk=>TL (by simp only[keys,List.map_append,List.mem_append];exact .inl hk)
 have h0:H0 id=some (.own e l):=by rw[←h.same id TL sM];exact aU
 have hq:Hq id=some (.own e l):=h.fz.abv aU
 have mT: ∀i,i∈keys ((id,some aR.gone)::uo++uf)↔i=id∨i∈keys (uo++uf):=by
  intro i
  simp only[keys,List.map_append,List.map_cons,List.cons_append,List.mem_append,List.mem_cons]
 have yG: ∀b,eD (ν id)=some b→b∉hs:=fun b hb dJ=>h.none b dJ id _ hq trivial hb
 refine⟨(Tr.gone h.mem id).mem,(Tr.gone h.ND id).mem,h.bP,fun i hi=> ?_,fun i hi=> ?_,fun q ot=> ?_,h.ion,fun i hi e' l'=> ?_,fun i hi=> ?_,fun i=> ?_,fun u hu=> ?_,h.ufv,?_,fun b hb=> ?_,fun b hb=> ?_,fun b hb i e' hi hm=> ?_,fun b hb hb0=> ?_,fun i hi lG=> ?_⟩
 ·have:=ve (id,some .gone) (uo++uf) TL [] H0
  simp only[List.nil_append]at this
  rw[List.cons_append,this]
  by_cases bB:i=id
  ·subst bB;rw[ak,ak]
  ·rw[an _ _ bB,an _ _ bB];exact h.ext i hi
 ·have:=ve (id,some .gone) uo abw [] H0
  simp only[List.nil_append]at this
  rw[this]
  by_cases bB:i=id
  ·subst bB;rw[ak,ak]
  ·rw[an _ _ bB,an _ _ bB];exact h.TK i hi
 ·obtain⟨h1,h2,h3⟩:=h.S6 q ot
  have gk:q.1≠id:=fun e=>sM (e▸List.mem_map_of_mem ot)
  exact⟨by rw[an _ _ gk];exact h1,by rw[an _ _ gk];exact h2,h3⟩
 ·by_cases bB:i=id
  ·subst bB;rw[ak];intro h';cases h'
  ·rw[an _ _ bB]
   exact h.ks i (((mT i).1 hi).resolve_left bB) e' l'
 ·rcases(mT i).1 hi with rfl|hi
  ·exact⟨sM,e,l,h0⟩
  ·exact h.ksn i hi
 ·by_cases bB:i=id
  ·subst bB;left;rw[ak,ak]
  ·rw[an _ _ bB,an _ _ bB];exact h.fz i
 ·rcases List.mem_cons.1 hu with rfl|hu
  ·rfl
  ·exact h.uov u hu
 ·refine List.nodup_append.2 ⟨h.nd,?_,fun x hx y hy=> ?_⟩
  ·cases eD (ν id)<;>simp
  ·rw[Option.mem_toList]at hy
   intro hxy;subst hxy
   exact yG x hy hx
 ·rcases List.mem_append.1 hb with hb|hb
  ·exact h.hM b hb
  ·rw[Option.mem_toList]at hb
   exact(h.mem.jk id _ aU).tQ trivial hb
 ·rcases List.mem_append.1 hb with hb|hb
  ·exact h.Kq b hb
  ·rw[Option.mem_toList]at hb
   exact h.mem.new id _ b aU trivial hb
 ·by_cases bB:i=id
  ·subst bB;rw[ak]at hi;cases hi;simp[aR.mut]at hm
  ·rw[an _ _ bB]at hi
   rcases List.mem_append.1 hb with hb|hb
   ·exact h.none b hb i e' hi hm
   ·rw[Option.mem_toList]at hb
    intro dJ
    exact h.ND.wu i id e' _ b bB hi hm hq trivial dJ hb
 ·rcases List.mem_append.1 hb with hb|hb
  ·exact h.iob b hb hb0
  ·rw[Option.mem_toList]at hb
   exact absurd hb0 (h.mem.uN id e l b aU hb)
 ·have gk:i≠id:=fun e=>hi ((mT i).2 (.inl e))
  rw[an _ _ gk]
  exact h.same i (fun h'=>hi ((mT i).2 (.inr h'))) lG
theorem iC.abx{H0 H1 Hq:Nat→Option aR}{M1:Nat→Prop}{uo uf:fK}{io:List (Nat×Ty)}{hs:List Nat}(h:iC c w M ν H0 H1 Hq M1 uo uf io hs){id:Nat}{τ:Ty}{x:τ.den}(aU:H1 id=some (.obj τ x)):
  iC c w M ν H0 (bu H1 id (some .gone)) (bu Hq id (some .gone)) M1 uo uf (io++[(id,τ)]) (hs++(eD (ν id)).toList):=by
 have sM:id∉keys io:=fun hk=>by
  obtain⟨q,hq,rfl⟩:=List.mem_map.1 hk
  have:=(h.S6 q hq).1
  rw[aU]at this;cases this
 have hq:Hq id=some (.obj τ x):=h.fz.agU aU
 have TL:id∉keys (uo++uf):=fun hk=>by
  have h1:=h.ext id sM
  obtain⟨_,e,l,h0⟩:=h.ksn id hk
  have key: ∀(ups:fK) (H:Nat→Option aR),(∀u∈ups,u.2=some .gone∨ ∃e l,u.2=some (.lj e l))→id∈keys ups→cc H ups id=some .gone∨ ∃e l,cc H ups id=some (.lj e l):=by
   intro ups
   induction ups with
   |nil=>intro H _ hk;simp[keys]at hk
   |cons u ups ih=>
    intro H hv hk
    by_cases S7:id∈keys ups
    ·exact ih _ (fun v PN=>hv v (List.mem_cons_of_mem _ PN)) S7
    ·show cc (bu H u.1 u.2) ups id=_∨ ∃e l,cc (bu H u.1 u.2) ups id=_
     rw[jX S7]
     have hui:id=u.1:=by
      simp only[keys,List.map_cons,List.mem_cons]at hk S7
      exact hk.resolve_right S7
     rw[hui,ak]
     exact hv u List.mem_cons_self
  have:=key (uo++uf) H0 (fun u hu=>by
   rcases List.mem_append.1 hu with hu|hu
   ·exact .inl (h.uov u hu)
   ·obtain⟨e,l,h',_⟩:=h.ufv u hu;exact .inr ⟨e,l,h'⟩) hk
  rw[h1,aU]at this
  rcases this with h'|⟨_,_,h'⟩<;>cases h'
 have h0:H0 id=some (.obj τ x):=by rw[←h.same id TL sM];exact aU
 have mT: ∀i,i∈keys (io++[(id,τ)])↔i∈keys io∨i=id:=by
  intro i
  simp only[keys,List.map_append,List.map_cons,List.map_nil,List.mem_append,List.mem_cons,List.not_mem_nil,or_false]
 have yG: ∀b,eD (ν id)=some b→b∉hs:=fun b hb dJ=>h.none b dJ id _ hq trivial hb
 refine⟨(Tr.gone h.mem id).mem,(Tr.gone h.ND id).mem,h.bP,fun i hi=> ?_,fun i hi=> ?_,fun q ot=> ?_,?_,fun i hi e' l'=> ?_,fun i hi=> ?_,fun i=> ?_,h.uov,h.ufv,?_,fun b hb=> ?_,fun b hb=> ?_,fun b hb i e' hi hm=> ?_,fun b hb hb0=> ?_,fun i hi lG=> ?_⟩
 ·rw[an _ _ (fun e=>hi ((mT i).2 (.inr e)))];exact h.ext i (fun h'=>hi ((mT i).2 (.inl h')))
 ·rw[an _ _ (fun e=>hi ((mT i).2 (.inr e)))];exact h.TK i (fun h'=>hi ((mT i).2 (.inl h')))
 ·rcases List.mem_append.1 ot with ot|ot
  ·obtain⟨h1,h2,h3⟩:=h.S6 q ot
   have gk:q.1≠id:=fun e=>sM (e▸List.mem_map_of_mem ot)
   exact⟨by rw[an _ _ gk];exact h1,by rw[an _ _ gk];exact h2,h3⟩
  ·rw[List.mem_singleton]at ot;subst ot
   exact⟨ak _ _ _,ak _ _ _,x,h0⟩
 ·simp only[keys,List.map_append,List.map_cons,List.map_nil]
  refine List.nodup_append.2 ⟨h.ion,by simp,fun x hx y hy=> ?_⟩
  rw[List.mem_singleton]at hy;subst hy
  intro e;exact sM (e▸hx)
 ·by_cases bB:i=id
  ·subst bB;rw[ak];intro h';cases h'
  ·rw[an _ _ bB];exact h.ks i hi e' l'
 ·obtain⟨h1,h2⟩:=h.ksn i hi
  exact⟨fun h'=>((mT i).1 h').elim h1 (fun e=>TL (e▸hi)),h2⟩
 ·by_cases bB:i=id
  ·subst bB;left;rw[ak,ak]
  ·rw[an _ _ bB,an _ _ bB];exact h.fz i
 ·refine List.nodup_append.2 ⟨h.nd,?_,fun x hx y hy=> ?_⟩
  ·cases eD (ν id)<;>simp
  ·rw[Option.mem_toList]at hy
   intro hxy;subst hxy
   exact yG x hy hx
 ·rcases List.mem_append.1 hb with hb|hb
  ·exact h.hM b hb
  ·rw[Option.mem_toList]at hb
   exact(h.mem.jk id _ aU).tQ trivial hb
 ·rcases List.mem_append.1 hb with hb|hb
  ·exact h.Kq b hb
  ·rw[Option.mem_toList]at hb
   exact h.mem.new id _ b aU trivial hb
 ·by_cases bB:i=id
  ·subst bB;rw[ak]at hi;cases hi;simp[aR.mut]at hm
  ·rw[an _ _ bB]at hi
   rcases List.mem_append.1 hb with hb|hb
   ·exact h.none b hb i e' hi hm
   ·rw[Option.mem_toList]at hb
    intro dJ
    exact h.ND.wu i id e' _ b bB hi hm hq trivial dJ hb
 ·rcases List.mem_append.1 hb with hb|hb
  ·obtain⟨q,hq1,hq2⟩:=h.iob b hb hb0
   exact⟨q,List.mem_append_left _ hq1,hq2⟩
  ·rw[Option.mem_toList]at hb
   exact⟨(id,τ),by simp,hb⟩
 ·have gk:i≠id:=fun e=>lG ((mT i).2 (.inr e))
  rw[an _ _ gk]
  exact h.same i hi (fun h'=>lG ((mT i).2 (.inl h')))
end VM
end
section
namespace VM
open Go
variable{P:Program}{E:Env}{o:Oper}{a:Act}{w:World}{M:Nat→Prop}{ν:Nat→Value}{σ:St}{c:Ctx}{α:Type}{r:α}{next:Act→World→Prop}{Q:Exit→Act→World→Prop}
theorem pd.upd{H:Nat→Option aR}{id:Nat}{e e':aR}(aU:H id=some e)(hl:e.iA e'):pd H ν (bu H id (some e')) ν:=
 ⟨fun i e1 hi=>by
  by_cases bB:i=id
  ·subst bB;rw[aU]at hi;cases hi;exact⟨e',ak _ _ _,hl⟩
  ·exact⟨e1,by rw[an _ _ bB];exact hi,.refl e1⟩,fun _ _=>rfl⟩
theorem aR.kT(e:aR):e.iA .gone:=by cases e<;>simp[aR.iA]
theorem VR.agW{H H':Nat→Option aR}{ν':Nat→Value}{a:Ty}{x:a.den}{v:Value}(h:VR w M H ν (xr a x) v):VR w M H' ν' (xr a x) v:=by
 unfold xr at h ⊢
 split at h
 ·simp only[VR]at h ⊢;exact h
 ·simp only[VR]at h ⊢;exact h
theorem fT.free{H H':Nat→Option aR}{ν':Nat→Value}: ∀{τ:Ty} {x:τ.den} {vs:List Value},fT w M H ν (mM τ x) vs→fT w M H' ν' (mM τ x) vs
 | .pair a b,x,v::vs,h=>by
  simp only[mM,fT]at h ⊢
  exact⟨VR.agW h.1,fT.free h.2⟩
 | .pair a b,x,[],h=>by simp[mM,fT]at h
 | .int _,_,[],_| .bool,_,[],_| .str,_,[],_| .slice _,_,[],_| .unit,_,[],_| .arr _ _,_,[],_=>by simp[mM,fT]
 | .int _,_,_::_,h| .bool,_,_::_,h| .str,_,_::_,h| .slice _,_,_::_,h| .unit,_,_::_,h| .arr _ _,_,_::_,h=>by simp[mM,fT]at h
theorem xC{H0 H1 Hq:Nat→Option aR}{M1:Nat→Prop}{uo uf:fK}{io:List (Nat×Ty)}{hs:List Nat}(h:iC c w M ν H0 H1 Hq M1 uo uf io hs){m:AM}{x:a7}{v:Value}(hv:VR w M1 H1 ν x v)
  {k:m.den→(Nat→Option aR)→List Nat→fK→fK→List (Nat×Ty)→Option α} (hk:lE m x H1 k=some r):
  ∃y H2 rd FU FV BS Pq M2,k y H2 rd FU FV BS=some r∧iC c w M ν H0 H2 Pq M2 (FU++uo) (FV++uf) (io++BS) (hs++cI m v)∧du w M1 w M2∧pd H1 ν H2 ν∧A1 w M2 m y v∧
   BS.map (fun q=>ν q.1)=(if m.fU then [v]else [])∧BS.map (·.2)=lI [m]:=by
 unfold lE at hk
 split at hk
 ·
  rename_i τ k
  obtain⟨y,rd,ups,hk,hy⟩:=zl h.mem hv hk
  rcases hy with⟨rfl,hV⟩|⟨id,e,l,rfl,aU,hV⟩
  ·exact⟨y,H1,rd,[],[],[],Hq,M1,hk,by simpa [cI]using h,.refl w M1,.refl H1 ν,hV,rfl,rfl⟩
  ·obtain⟨M2,hA,hK,Ek⟩:=h.freeze aU
   exact⟨y,_,rd,[],_,[],Hq,M2,hk,by simpa [cI]using hA,hK,.upd aU ⟨rfl,rfl⟩,hV M2 Ek,rfl,rfl⟩
 ·
  rename_i e k
  split at hk
  ·obtain⟨ad,hv⟩:=VR.emp.1 hv
   subst hv
   have hb:eD (.slice ad 0 0)=none:=by cases ad<;>simp[eD]
   exact⟨[],H1,[],[],[],[],Hq,M1,hk,by simpa [cI,hb]using h,.refl w M1,.refl H1 ν,by simp only[A1,ER];exact .inl ⟨trivial,ad,rfl⟩,rfl,rfl⟩
  ·rename_i id
   split at hk
   ·rename_i e' l aU
    obtain⟨e1,hk⟩:=ba hk
    cases e1
    simp only[VR]at hv
    obtain⟨_,rfl⟩:=hv
    refine⟨_,_,_,_,_,_,_,M1,hk,by simpa [cI]using h.hand aU,.refl w M1,.upd aU (aR.kT _),?_,rfl,rfl⟩
    have:=h.mem.jk id _ aU
    exact this
   ·cases hk
  ·cases hk
 ·
  rename_i τ k
  split at hk
  ·rename_i id
   split at hk
   ·rename_i υ z aU
    obtain⟨e1,hk⟩:=ba hk
    subst e1
    simp only[VR]at hv
    obtain⟨e,he,kC⟩:=hv
    rw[aU]at he;cases he
    simp only[AR]at kC
    obtain⟨_,b,hb,hv⟩:=kC
    have PZ:v=ν id:=by rw[hv,hb];rfl
    subst PZ
    refine⟨_,_,_,_,_,_,_,M1,hk,by simpa [cI]using h.abx aU,.refl w M1,.upd aU (aR.kT _),?_,rfl,rfl⟩
    have:=h.mem.jk id _ aU
    exact this
   ·cases hk
  ·cases hk
 ·
  rename_i f τ k
  split at hk
  ·rename_i f' cs
   obtain⟨hf,hk1⟩:=bM hk
   clear hk
   have hf:=Nat.eq_of_beq_eq_true hf
   subst hf
   have hk:=hk1
   clear hk1
   simp only[VR]at hv
   obtain⟨us,rfl,TC⟩:=hv
   obtain⟨y,rd,ups,hk,hy⟩:=z7 h.mem TC hk
   split at hk
   ·exact⟨y,H1,rd,[],[],[],Hq,M1,hk,by simpa [cI]using h,.refl w M1,.refl H1 ν,by simp only[A1,VR];exact⟨us,rfl,hy rfl⟩,rfl,rfl⟩
   ·cases hk
  ·cases hk
 ·cases hk
 ·
  rename_i τ k
  split at hk
  ·rename_i υ z
   obtain⟨e1,hk⟩:=ba hk
   subst e1
   exact⟨_,H1,_,[],[],[],Hq,M1,hk,by simpa [cI]using h,.refl w M1,.refl H1 ν,by simp only[A1,VR]at hv ⊢;exact hv,rfl,rfl⟩
  ·cases hk
theorem xD{H0:Nat→Option aR}: ∀{ms:List AM} {mR:List a7} {vs:List Value} {H1 Hq:Nat→Option aR} {M1:Nat→Prop} {rd:List Nat} {uo uf:fK} {io:List (Nat×Ty)} {hs:List Nat} {K:HP ms→List Nat→fK→fK→List (Nat×Ty)→Option α},
  iC c w M ν H0 H1 Hq M1 uo uf io hs→fT w M1 H1 ν mR vs→pt ms mR H1 rd uo uf io K=some r→
  ∃x wB FU FV BS H2 Pq M2,K x wB FU FV BS=some r∧iC c w M ν H0 H2 Pq M2 FU FV BS (hs++cR ms vs)∧du w M1 w M2∧gl w M2 ms x vs∧
   BS.map (fun q=>ν q.1)=io.map (fun q=>ν q.1)++dG ms vs∧BS.map (·.2)=io.map (·.2)++lI ms
 |[],[],[],H1,Hq,M1,rd,uo,uf,io,hs,K,h,_,hk=>
  ⟨(),rd,uo,uf,io,H1,Hq,M1,hk,by simpa [cR]using h,.refl w M1,rfl,by simp[dG],by simp[lI]⟩
 |[m],[x],[v],H1,Hq,M1,rd,uo,uf,io,hs,K,h,hv,hk=>by
  simp only[fT,and_true]at hv
  obtain⟨y,H2,rd1,uo1,uf1,io1,Pq,M2,hk,hA,hK,hG,hy,TM,Pr⟩:=xC h hv (hk:lE m x H1 _=some r)
  refine⟨y,_,_,_,_,H2,Pq,M2,hk,by simpa [cR]using hA,hK,⟨v,[],rfl,hy,rfl⟩,?_,?_⟩
  ·rw[List.map_append,TM];cases sM:m.fU<;>simp[dG,sM]
  ·rw[List.map_append,Pr]
 |m::n::ms,x::xs,v::vs,H1,Hq,M1,rd,uo,uf,io,hs,K,h,hv,hk=>by
  simp only[fT]at hv
  obtain⟨y,H2,rd1,uo1,uf1,io1,Pq,M2,hk,hA,hK,hG,hy,TM,Pr⟩:=xC h hv.1 (hk:lE m x H1 _=some r)
  obtain⟨ys,wB,FU,FV,BS,H3,Hq3,M3,hk,hA',hK',hys,hi3,hi4⟩:=xD (ms:=n::ms) hA (fT.bP hK hG hv.2) hk
  refine⟨(y,ys),_,_,_,_,H3,Hq3,M3,hk,by simpa [cR,List.append_assoc]using hA',hK.trans hK',⟨v,vs,rfl,?_,hys⟩,?_,?_⟩
  ·refine A1.rQ hK' (fun b hb=>⟨rfl,hA'.hM b ?_⟩) hy
   exact List.mem_append_left _ (List.mem_append_right _ hb)
  ·rw[hi3,List.map_append,TM,List.append_assoc]
   congr 1
   cases sM:m.fU<;>simp[dG,sM]
  ·rw[hi4,List.map_append,Pr,List.append_assoc]
   congr 1
   cases m<;>simp[lI]
 |[],_::_,_,_,_,_,_,_,_,_,_,_,_,_,hk=>by simp[pt]at hk
 |[_],[],_,_,_,_,_,_,_,_,_,_,_,_,hk=>by simp[pt]at hk
 |[_],_::_::_,_,_,_,_,_,_,_,_,_,_,_,_,hk=>by simp[pt]at hk
 |_::_::_,[],_,_,_,_,_,_,_,_,_,_,_,_,hk=>by simp[pt]at hk
 |_,_::_,[],_,_,_,_,_,_,_,_,_,_,hv,_=>by simp[fT]at hv
 |[],[],_::_,_,_,_,_,_,_,_,_,_,_,hv,_=>by simp[fT]at hv
 |[_],[_],_::_::_,_,_,_,_,_,_,_,_,_,_,hv,_=>by simp[fT]at hv
end VM
end
