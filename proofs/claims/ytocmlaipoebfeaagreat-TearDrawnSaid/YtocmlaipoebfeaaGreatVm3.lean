/- A part of the proof of TearDrawn of layer 29: a machine that reads a function of the program as an equation between values. -/
import Derived.Test.YtocmlaipoebfeaaGreatVm2
import Derived.Great.FillDense
set_option linter.all false
section
namespace VM
open Go
variable{P:Program}{E:Env}{o:Oper}{a:Act}{w:World}{M:Nat→Prop}{ν:Nat→Value}{σ:St}{c:Ctx}{α:Type}{r:α}{next:Act→World→Prop}{Q:Exit→Act→World→Prop}
theorem ND(off:Nat)(new:Array Value)(cs:Array Value)(h:off+new.size≤cs.size):
  (new.zipIdx.foldl (fun cs (x:Value×Nat)=>cs.setIfInBounds (off+x.2) x.1) cs)=(dj cs.toList off new.toList).toArray:=by
 have h1:new.zipIdx.foldl (fun cs (x:Value×Nat)=>cs.setIfInBounds (off+x.2) x.1) cs=(new.toList.zipIdx 0).foldl (fun cs (x:Value×Nat)=>cs.setIfInBounds (off+x.2) x.1) cs:=by
  rw[←Array.foldl_toList,Array.toList_zipIdx]
 rw[h1]
 obtain⟨hs,hk⟩:=Great.foldl_set off new.toList 0 cs
 apply Array.ext_getElem?
 intro k
 rw[hk k,←Array.getElem?_toList (xs:=cs)]
 have hl:new.toList.length=new.size:=Array.length_toList
 have hc:cs.toList.length=cs.size:=Array.length_toList
 unfold dj
 rw[List.getElem?_toArray]
 by_cases h2:k<off
 ·rw[if_neg (by omega),List.append_assoc,List.getElem?_append_left (by rw[List.length_take];omega),List.getElem?_take_of_lt h2]
 ·by_cases h3:k<off+new.size
  ·rw[if_pos (by omega),List.getElem?_append_left (by rw[List.length_append,List.length_take];omega),List.getElem?_append_right (by rw[List.length_take];omega),List.length_take]
   congr 1
   omega
  ·rw[if_neg (by omega),List.getElem?_append_right (by rw[List.length_append,List.length_take];omega),List.length_append,List.length_take,List.getElem?_drop]
   congr 1
   omega
theorem Bt{place:Nat→Option (Nat×Nat)}{cs:Array Value}{i:Nat}{v:Value}{rest:List (Nat×Value)}{off s:Nat}(hp:place i=some (off,s))(hs:v.cells.size=s)(h:off+s≤cs.size):
  Instr.fill place cs ((i,v)::rest)=Instr.fill place (dj cs.toList off v.cells.toList).toArray rest:=by
 have h1: ¬(decide (v.cells.size≠s)||decide (off+v.cells.size>cs.size))=true:=by simp[hs];omega
 conv=>lhs;unfold Instr.fill
 rw[hp]
 simp only
 rw[if_neg h1]
 congr 1
 exact ND off v.cells cs (by omega)
theorem o8(a:Act)(ps:Array (Nat×Operand)):(ps.map fun(i,x)=>(i,a.eval x)).toList=ps.toList.map fun p=>(p.1,a.eval p.2):=by
 rw[Array.toList_map]
def PR(w:World)(M:Nat→Prop)(H:Nat→Option aP)(ν:Nat→Value):List (Nat×aY)→List (Nat×Value)→Prop
 |[],[]=>True
 |p::ps,q::qs=>p.1=q.1∧VR w M H ν p.2 q.2∧PR w M H ν ps qs
 |_,_=>False
theorem PR.bs{w':World}{M':Nat→Prop}{H H':Nat→Option aP}{ν':Nat→Value}(k:di w M w' M')(g:oe H ν H' ν'): ∀{ps:List (Nat×aY)} {qs:List (Nat×Value)},PR w M H ν ps qs→PR w' M' H' ν' ps qs
 |[],[],_=>trivial
 |_::_,_::_,h=>⟨h.1,h.2.1.bs k g,PR.bs k g h.2.2⟩
 |[],_::_,h=>h.elim
 |_::_,[],h=>h.elim
theorem Core.pr(hc:Core c σ a.tmps w M ν): ∀ps:List (Nat×Operand),PR w M σ.H ν (ps.map fun p=>(p.1,σ.ρ p.2)) (ps.map fun p=>(p.1,a.eval p.2))
 |[]=>trivial
 |p::ps=>⟨rfl,hc.ev p.2,hc.pr ps⟩
theorem wA{e:Ty}{n:Nat}{H:Nat→Option aP}: ∀(ps:List (Nat×aY)) (qs:List (Nat×Value)) (H1:Nat→Option aP) (M:Nat→Prop) (l:List e.den) (cs:Array Value) (rd:List Nat) (ups:fl) (K:List e.den→List Nat→fl→Option α),
  Fz H H1→Mem c H1 w M ν→PR w M H1 ν ps qs→l.length=n→cs.size=n*e.size→mE w M e cs.toList l→H1=bS H ups→qu e H n ps l rd ups K=some r→
  ∃l' vq jW M' cs',K l' vq jW=some r∧Tr c H1 w M ν (bS H jW) w M' ν∧Fz H (bS H jW)∧l'.length=n∧cs'.size=n*e.size∧mE w M' e cs'.toList l'∧
   Instr.fill (fun i=>some (i*e.size,e.size)) cs qs=some cs':=by
 intro ps
 induction ps with
 |nil=>
  intro qs H1 M l cs rd ups K hz hm hp hl hs hr hH h
  cases qs with
  |cons _ _=>exact hp.elim
  |nil=>exact⟨l,rd,ups,M,cs,h,hH▸Tr.refl hm,hH▸hz,hl,hs,hr,rfl⟩
 |cons p ps ih=>
  intro qs H1 M l cs rd ups K hz hm hp hl hs hr hH h
  cases qs with
  |nil=>exact hp.elim
  |cons q qs=>
   obtain⟨h1,h2,h3⟩:=hp
   unfold qu at h
   obtain⟨hb,h⟩:=bB h
   have dF:p.1<n:=by simpa [Nat.blt_eq]using hb
   obtain⟨y,Y5,Io,M1,h,eP,hV,ya,_⟩:=j1 hz hm h2 h
   have hlen:(q.2.cells).size=e.size:=by rw[←Array.length_toList];exact hV.cells.length
   have hmul:=cS (s:=e.size) dF
   have sq:=mE.set (hr.bs eP.bs) (by rw[hl,Array.length_toList,hs];exact Nat.le_refl _) (i:=p.1) (by omega) hV.cells
   obtain⟨l',vq,jW,M',cs',hK,Y6,Az,D1,J0,dx,hf⟩:=ih qs (bS H1 Io) M1 (l.set p.1 y) (dj cs.toList (p.1*e.size) q.2.cells.toList).toArray (Y5++rd) (ups++Io) K ya eP.mem (h3.bs eP.bs eP.goes)
    (by rw[List.length_set];exact hl) (by rw[List.size_toArray,ec (by rw[Array.length_toList,Array.length_toList];omega),Array.length_toList,hs]) sq (by rw[dT,hH]) h
   refine⟨l',vq,jW,M',cs',hK,eP.trans Y6,Az,D1,J0,dx,?_⟩
   rw[Bt (off:=p.1*e.size) (s:=e.size) (by rw[h1]) hlen (by omega)]
   exact hf
theorem CK{τ:Ty}{H:Nat→Option aP}{place:Nat→Option (Nat×Nat)}(CL: ∀(x:τ.den) n υ y o,xj τ x n υ y o→place n=some (o,υ.size)):
  ∀(ps:List (Nat×aY)) (qs:List (Nat×Value)) (H1:Nat→Option aP) (M:Nat→Prop) (x:τ.den) (cs:Array Value) (rd:List Nat) (ups:fl) (K:τ.den→List Nat→fl→Option α),
  Fz H H1→Mem c H1 w M ν→PR w M H1 ν ps qs→Rd w M τ cs.toList x→H1=bS H ups→o4 τ H ps x rd ups K=some r→
  ∃x' vq jW M' cs',K x' vq jW=some r∧Tr c H1 w M ν (bS H jW) w M' ν∧Fz H (bS H jW)∧Rd w M' τ cs'.toList x'∧Instr.fill place cs qs=some cs'∧
   ∀m υ,Cu τ m=some υ→(ps.all fun p=> !(Nat.beq p.1 m))=true→(cs'.toList.drop (nB τ m)).take υ.size=(cs.toList.drop (nB τ m)).take υ.size:=by
 intro ps
 induction ps with
 |nil=>
  intro qs H1 M x cs rd ups K hz hm hp hr hH h
  cases qs with
  |cons _ _=>exact hp.elim
  |nil=>exact⟨x,rd,ups,M,cs,h,hH▸Tr.refl hm,hH▸hz,hr,rfl,fun _ _ _ _=>rfl⟩
 |cons p ps ih=>
  intro qs H1 M x cs rd ups K hz hm hp hr hH h
  cases qs with
  |nil=>exact hp.elim
  |cons q qs=>
   obtain⟨h1,h2,h3⟩:=hp
   unfold o4 at h
   obtain⟨υ,y0,of,hf,h⟩:=oC h
   obtain⟨y,Y5,Io,M1,h,eP,hV,ya,_⟩:=j1 hz hm h2 h
   obtain⟨υ',y',o',k',xk,gD,AO⟩:=nT h
   obtain⟨rfl,rfl⟩:=xk.eq
   obtain⟨rfl,rfl⟩:=hf.eq
   obtain⟨e1,AQ⟩:=a7 gD
   obtain⟨x',nC,_,gV⟩:=AO _ _ AQ
   have hlen:(q.2.cells).size=(qf τ p.1).size:=by rw[←Array.length_toList];exact hV.cells.length
   have hb:=hf.bound
   have D3:=hr.length
   rw[Array.length_toList]at D3
   obtain⟨x2,vq,jW,M',cs',hK,Y6,Az,dx,Nw,Ip⟩:=ih qs (bS H1 Io) M1 x' (dj cs.toList (nB τ p.1) q.2.cells.toList).toArray (Y5++rd) (ups++Io) K ya eP.mem (h3.bs eP.bs eP.goes)
    (gV w M1 _ _ (hr.bs eP.bs) hV.cells) (by rw[dT,hH]) nC
   refine⟨x2,vq,jW,M',cs',hK,eP.trans Y6,Az,dx,?_,fun m υ gD jo=> ?_⟩
   ·rw[Bt (off:=nB τ p.1) (s:=(qf τ p.1).size) (by rw[←h1];exact CL _ _ _ _ _ hf) hlen (by omega)]
    exact Nw
   ·rw[List.all_cons,Bool.and_eq_true]at jo
    rw[Ip m υ gD jo.2]
    obtain⟨y2,o2,hf2⟩:=oD gD x
    obtain⟨e3,e4⟩:=hf2.eq
    subst e3 e4
    have g9:p.1≠m:=fun e=>by have:=jo.1;rw[e,Nat.beq_refl]at this;cases this
    have hap:=hf.apart hf2 g9
    have so:=hf2.bound
    show((dj cs.toList (nB τ p.1) q.2.cells.toList).drop _).take _=_
    rw[CB (by rw[Array.length_toList];omega) (by rw[Array.length_toList,Array.length_toList];omega)]
theorem dC.places: ∀(τ:Ty) (fs:Array Field) (n off:Nat),dC P τ (.inr (fs,n,off))→
  ∃ps,(fs.toList.drop n).mapM (fun f=>(P.info? f.type).map fun i=>(f.offset,i.size))=some ps∧ ∀(x:τ.den) m υ y o,xj τ x m υ y o→ps[m]? =some (off+o,υ.size)
 | .unit,fs,n,off,h=>by
  simp only[dC]at h
  refine⟨[],?_,fun x m υ y o hf=>by cases hf⟩
  rw[List.drop_of_length_le (by rw[Array.length_toList];omega)];rfl
 | .pair t b,fs,n,off,h=>by
  simp only[dC]at h
  obtain⟨f,hf,ho,ha,hb⟩:=h
  obtain⟨ps,HT,Nw⟩:=dC.places b fs (n+1) (off+t.size) hb
  obtain⟨i,hi,hs,_⟩:=(show gA P t f.type from ha).base
  have dF:n<fs.toList.length:=by rw[Array.length_toList];exact(Array.getElem?_eq_some_iff.1 hf).1
  have hfe:fs.toList[n]=f:=by rw[Array.getElem_toList];exact(Array.getElem?_eq_some_iff.1 hf).2
  refine⟨(off,t.size)::ps,?_,fun x m υ y o xk=> ?_⟩
  ·rw[List.drop_eq_getElem_cons dF,List.mapM_cons,HT,hfe,hi]
   simp[ho,hs]
  ·cases xk with
   |here=>simp
   |there _ h'=>simp[Nw _ _ _ _ _ h',Nat.add_assoc]
 | .int _,_,_,_,h| .bool,_,_,_,h| .str,_,_,_,h| .slice _,_,_,_,h| .arr _ _,_,_,_,h=>by simp[dC]at h
theorem gA.places{τ:Ty}{t:TypeId}(h:gA P τ t)(ha:τ.isAgg=true)(hn: ∀n e,τ≠ .arr n e):
  ∃fs ps,P.underlying t=some (.struct fs)∧fs.toList.mapM (fun f=>(P.info? f.type).map fun i=>(f.offset,i.size))=some ps∧ ∀(x:τ.den) m υ y o,xj τ x m υ y o→ps[m]? =some (o,υ.size):=by
 cases τ with
 |unit=>
  simp only[gA,dC]at h
  obtain⟨_,fs,hu,hs⟩:=h
  refine⟨fs,[],hu,?_,fun x m υ y o hf=>by cases hf⟩
  have:fs.toList=[]:=List.eq_nil_of_length_eq_zero (by rw[Array.length_toList];exact hs)
  rw[this];rfl
 |pair t' b=>
  simp only[gA,dC]at h
  obtain⟨_,fs,f,hu,hf,ho,ha',hb⟩:=h
  have hg:dC P (.pair t' b) (.inr (fs,0,0)):=by
   simp only[dC]
   exact⟨f,hf,ho,ha',by simpa using hb⟩
  obtain⟨ps,HT,Nw⟩:=dC.places _ fs 0 0 hg
  exact⟨fs,ps,hu,HT,fun x m υ y o xk=>by simpa using Nw x m υ y o xk⟩
 |arr n e=>exact absurd rfl (hn n e)
 |int _=>simp[Ty.isAgg]at ha
 |bool=>simp[Ty.isAgg]at ha
 |str=>simp[Ty.isAgg]at ha
 |slice _=>simp[Ty.isAgg]at ha
theorem tT{ρ:Operand→Value}{t:TypeId}{ps:Array (Nat×Operand)}(ho:o.op= .build t ps){v:Value}(h:(Instr.build t (ps.map fun(i,x)=>(i,ρ x))).run P w= .ok v w):(execOp ρ o).run P w= .ok (.value v) w:=by
 simp[execOp,ho,h]
theorem tU{ρ:Operand→Value}{t:TypeId}{n:Nat}{ps:Array (Nat×Operand)}(ho:o.op= .buildSlice t n ps){v:Value}{w':World}(h:(Instr.buildSlice t n (ps.map fun(i,x)=>(i,ρ x))).run P w= .ok v w'):(execOp ρ o).run P w= .ok (.value v) w':=by
 simp[execOp,ho,h]
theorem VR.J1{H:Nat→Option aP}{τ:Ty}(ha:τ.isAgg=true){cs:Array Value}{x:τ.den}(h:Rd w M τ cs.toList x):VR w M H ν (.val τ x) (.agg cs):=by
 simp only[VR,V];rw[if_pos ha];exact⟨cs,rfl,h⟩
theorem CN(hE:EnvTy P E)(hc:Core c σ a.tmps w M ν){t:TypeId}{ps:Array (Nat×Operand)}(ho:o.op= .build t ps){K:fm α}{n:Nat}{e:Ty}(ht:E.ty t=some (.arr n e))
  (h:qu e σ.H n (partsOf σ.ρ ps) (List.replicate n e.zero) [] [] (fun l rd ups=>K (.val (.arr n e) l) rd ups)=some r) (hn:dM c σ a o w M ν K r next):o.wp P a w next Q:=by
 have hl:=hE.ty t _ ht
 obtain⟨e',hu,hle⟩:=hl.arr
 obtain⟨i,hi,hs,hz,_⟩:=hl.base
 obtain⟨ie,hie,hes,_⟩:=hle.base
 have Y7:=Rd.arr.1 (Rd.zero w M (.arr n e))
 obtain⟨l',vq,jW,M',cs',hK,eP,Az,D1,J0,dx,hf⟩:=wA (partsOf σ.ρ ps) (ps.toList.map fun(p:Nat×Operand)=>(p.1,a.eval p.2)) σ.H M (List.replicate n e.zero) (Ty.b9 (.arr n e)).toArray [] [] _ (.refl _) hc.mem (hc.pr ps.toList)
  (by rw[List.length_replicate]) (by rw[List.size_toArray];exact Y7.2.1) Y7.2.2 rfl h
 refine aK (tT ho (run_build w t _ cs' ?_)) (hn _ _ _ _ _ _ _ hK eP (VR.J1 rfl (Rd.arr.2 ⟨D1,by rw[Array.length_toList];exact J0,dx⟩)))
 unfold Program.built
 rw[hi,hu]
 simp only[hz,hie,hes,o8]
 exact hf
theorem xu(hE:EnvTy P E)(hc:Core c σ a.tmps w M ν){t:TypeId}{ps:Array (Nat×Operand)}(ho:o.op= .build t ps){K:fm α}{τ:Ty}(ht:E.ty t=some τ)(XJ: ∀n e,τ≠ .arr n e)
  (h:cond τ.isAgg (o4 τ σ.H (partsOf σ.ρ ps) τ.zero [] [] (fun l rd ups=>K (Q7 E (partsOf σ.ρ ps) τ l) rd ups)) none=some r) (hn:dM c σ a o w M ν K r next):o.wp P a w next Q:=by
 obtain⟨Et,h⟩:=bB h
 have hl:=hE.ty t _ ht
 obtain⟨fs,pl,hu,HT,CL⟩:=hl.places Et XJ
 obtain⟨i,hi,hs,hz,_⟩:=hl.base
 obtain⟨l',vq,jW,M',cs',hK,eP,Az,dx,hf,Ip⟩:=CK (place:=(pl.toArray[·]?)) (fun x n υ y o hf=>by simpa using CL x n υ y o hf) (partsOf σ.ρ ps) (ps.toList.map fun(p:Nat×Operand)=>(p.1,a.eval p.2)) σ.H M τ.zero τ.b9.toArray [] [] _ (.refl _) hc.mem (hc.pr ps.toList)
  (Rd.zero w M τ) rfl h
 have hvr:VR w M' (bS σ.H jW) ν (Q7 E (partsOf σ.ρ ps) τ l') (.agg cs'):=by
  unfold Q7
  split
  ·rename_i n e oG
   cases jo:(partsOf σ.ρ ps).all fun p=> !(Nat.beq p.1 n)
   ·exact VR.J1 Et dx
   ·have hq:=JW oG
    show VR w M' (bS σ.H jW) ν (.Cv τ l' n) (.agg cs')
    have hv:=VR.J1 (H:=bS σ.H jW) (ν:=ν) Et dx
    simp only[VR]at hv ⊢
    refine⟨hv,cs',none,rfl,?_⟩
    have hfq:Cu τ n=some (.slice e):=by
     unfold ew at hq
     split at hq
     ·rename_i a ha
      rw[ha]
      have:=of_decide_eq_true hq
      rw[this]
     ·cases hq
    have h2:=Ip n _ hfq jo
    have h3:=Bp hq
    simp only[bC,Nat.add_zero]at h3
    have h4:=congrArg (fun l=>l[0]?) h2
    simp only[List.getElem?_take,List.getElem?_drop,Nat.add_zero]at h4
    rw[if_pos (show 0<(Ty.slice e).size from Nat.one_pos),if_pos (show 0<(Ty.slice e).size from Nat.one_pos)]at h4
    rw[h4];exact h3
  ·exact VR.J1 Et dx
 refine aK (tT ho (run_build w t _ cs' ?_)) (hn _ _ _ _ _ _ _ hK eP hvr)
 unfold Program.built
 rw[hi,hu]
 have hzc:(bF τ τ.b9).cells=τ.b9.toArray:=by apply Array.ext';rw[eC]
 simp only[hz,HT,o8,hzc]
 exact hf
theorem AS(hE:EnvTy P E)(hc:Core c σ a.tmps w M ν){t:TypeId}{n:Nat}{ps:Array (Nat×Operand)}(ho:o.op= .buildSlice t n ps){K:fm α}{e:Ty}(ht:E.ty t=some (.slice e)){id:Nat}
  (h:cond (Nat.ble (n*(e.size+1)) 16777216) (mz σ.H id (.own e []) (qu e σ.H n (partsOf σ.ρ ps) (List.replicate n e.zero) [] [] fun l rd ups=>K (.ref id) (id::rd) (ups++[(id,some (.own e l))]))) none=some r)
  (hn:dM c σ a o w M ν K r next):o.wp P a w next Q:=by
 obtain⟨hb,h⟩:=bB h
 obtain⟨aT,h⟩:=hZ h
 have hb:=Nat.le_of_ble_eq_true hb
 rw[Nat.mul_add,Nat.mul_one]at hb
 obtain⟨e',hu,hle⟩:=(hE.ty t _ ht).slice
 obtain⟨ie,hie,hes,hz,_⟩:=hle.base
 obtain⟨l',vq,jW,M',cs',hK,eP,Az,D1,J0,dx,hf⟩:=wA (partsOf σ.ρ ps) (ps.toList.map fun(p:Nat×Operand)=>(p.1,a.eval p.2)) σ.H M (List.replicate n e.zero) (madeCells (bF e e.b9).cells (n*e.size)) [] [] _ (.refl _) hc.mem (hc.pr ps.toList)
  (by rw[List.length_replicate]) (size_madeCells _ _) (mE.made w M e (Nat.le_refl _)) rfl h
 have YV:bS σ.H jW id=none:=Az.none aT
 have qB:=eP.trans (Tr.row eP.mem YV e' (e:=e) (cs:=cs') (l:=l') (cap:=n) (by omega) (by simp[maxLen];omega) J0 dx)
 have cA:(Instr.buildSlice t n (ps.map fun(i,x)=>(i,a.eval x))).run P w= .ok (.slice (some ⟨w.heap.size,0,none⟩) n n) (w.alloc (.cells cs' e')):=by
  by_cases h0:n*e.size=0
  ·rw[h0]at hf
   have Y8:madeCells (bF e e.b9).cells 0=(Array.range 0).map fun i:Nat=>(#[]:Array Value)[i%0]! :=by simp[madeCells]
   rw[Y8]at hf
   rw[←o8]at hf
   simp[Instr.buildSlice,run_underlying hu,Go.sizeOf,typeInfo,hie,hes,h0,newRow]at hf ⊢
   simp[hf]
  ·refine run_buildSlice w t e' n _ cs' ie _ hu hie hz (by rw[hes];omega) (by rw[hes];exact h0) ?_
   rw[hes,o8]
   exact hf
 refine aK (tU ho cA) (hn _ _ _ _ _ (fun b=>M' b∨b=w.heap.size) (cj ν id (.slice (some ⟨w.heap.size,0,none⟩) l'.length n)) hK ?_ ?_)
 ·rw[dT];exact qB
 ·simp only[VR]
  exact⟨by rw[dT];show bm _ id _ id≠none;rw[ak];simp,by simp[cj,D1]⟩
end VM
end
section
namespace VM
open Go
variable{P:Program}{E:Env}{o:Oper}{a:Act}{w:World}{M:Nat→Prop}{ν:Nat→Value}{σ:St}{c:Ctx}{α:Type}{r:α}{next:Act→World→Prop}{Q:Exit→Act→World→Prop}
def QL(o:Option Value)(d l:Int):Prop:=(o=none∧l=d)∨ ∃k,o=some (.int k l)
theorem mG(hc:Core c σ a.tmps w M ν){x:Option Operand}{d:Int}{k:Int→Option α}(h:sO (x.map σ.ρ) d k=some r): ∃l,k l=some r∧QL (x.map a.eval) d l:=by
 cases x with
 |none=>exact⟨d,h,.inl ⟨rfl,rfl⟩⟩
 |some x=>
  obtain⟨i,n,hx,h⟩:=jn (h:qq (σ.ρ x) (fun _ x=>k x)=some r)
  have hv:=hc.ev x
  rw[hx]at hv
  exact⟨n,h,.inr ⟨i,by rw[←hv.int];rfl⟩⟩
theorem p3{s:Bool}{len cap:Nat}{lo hi mx:Option Value}{l h m:Int}(xv:QL lo 0 l)(D4:QL hi len h)(Lg:QL mx cap m)(hm:mx.isNone=true∨hi.isSome=true)
  (h0:0≤l) (h1:l≤h) (h2:h≤m) (h3:m≤cap):(Instr.sliceBounds s len cap lo hi mx).run P w= .ok (l.toNat,h.toNat,m.toNat) w:=by
 have hb: ∀(k:IntKind) (i:Int) (y:Nat) cd,0≤i→i≤y→(Instr.sliceBound (.int k i) y cd).run P w= .ok i.toNat w:=by
  intro k i y cd h1 h2
  simp[Instr.sliceBound,asIntOf,h1,h2]
 have gD:((m.toNat:Nat):Int)=m:=by omega
 have hh':((h.toNat:Nat):Int)=h:=by omega
 rcases Lg with⟨rfl,rfl⟩|⟨km,rfl⟩
 ·rcases D4 with⟨rfl,rfl⟩|⟨kh,rfl⟩
  ·rcases xv with⟨rfl,rfl⟩|⟨kl,rfl⟩
   ·simp[Instr.sliceBounds]
   ·simp[Instr.sliceBounds,hb kl l len _ h0 h1]
  ·rcases xv with⟨rfl,rfl⟩|⟨kl,rfl⟩
   ·simp[Instr.sliceBounds,hb kh h cap _ (by omega) h2]
   ·simp[Instr.sliceBounds,hb kh h cap _ (by omega) h2,hb kl l h.toNat _ h0 (by omega)]
 ·rcases D4 with⟨rfl,rfl⟩|⟨kh,rfl⟩
  ·simp at hm
  ·rcases xv with⟨rfl,rfl⟩|⟨kl,rfl⟩
   ·simp[Instr.sliceBounds,hb km m cap _ (by omega) h3,hb kh h m.toNat _ (by omega) (by omega)]
   ·simp[Instr.sliceBounds,hb km m cap _ (by omega) h3,hb kh h m.toNat _ (by omega) (by omega),hb kl l h.toNat _ h0 (by omega)]
theorem AT{ρ:Operand→Value}{t:TypeId}{x:Operand}{lo hi mx:Option Operand}(ho:o.op= .slice t x lo hi mx){s:ByteArray}{l h:Int}(hu:P.underlying t=some .string)(hx:ρ x= .string s)
  (xv:QL (lo.map ρ) 0 l) (D4:QL (hi.map ρ) s.size h) (Lg:mx.isNone=true) (h0:0≤l) (h1:l≤h) (h2:h≤s.size):(execOp ρ o).run P w= .ok (.value (.string (s.extract l.toNat h.toNat))) w:=by
 have hm:mx=none:=by simpa using Lg
 subst hm
 have hb:=p3 (P:=P) (w:=w) (s:=false) xv D4 (.inl ⟨rfl,rfl⟩) (.inl rfl) h0 h1 h2 (Int.le_refl _)
 simp[execOp,ho,hx,Instr.sliceAt,Instr.slice,run_underlying hu,hb]
theorem o9{ρ:Operand→Value}{t e:TypeId}{x:Operand}{lo hi mx:Option Operand}(ho:o.op= .slice t x lo hi mx){τ:Ty}{ad:Option Addr}{len cap:Nat}{l h m:Int}(hu:P.underlying t=some (.slice e))(hle:gA P τ e)(hx:ρ x= .slice ad len cap)
  (xv:QL (lo.map ρ) 0 l) (D4:QL (hi.map ρ) len h) (Lg:QL (mx.map ρ) cap m) (hm:(mx.map ρ).isNone=true∨(hi.map ρ).isSome=true) (h0:0≤l) (h1:l≤h) (h2:h≤m) (h3:m≤cap):
  (execOp ρ o).run P w= .ok (.value (.slice (if m.toNat=l.toNat then ad else ad.map (·.add (l.toNat*τ.size))) (h.toNat-l.toNat) (m.toNat-l.toNat))) w:=by
 have hb:=p3 (P:=P) (w:=w) (s:=true) xv D4 Lg hm h0 h1 h2 h3
 simp[execOp,ho,hx,Instr.sliceAt,Instr.slice,run_underlying hu,hb,b7 hle]
theorem wB{x:Option Operand}(h:iv x=true)(a:Act): ∃k,x.map a.eval=some (.int k 0):=by
 unfold iv at h
 split at h
 ·rename_i k n
  have:n=0:=by simpa using h
  subst this
  exact⟨k,rfl⟩
 ·cases h
theorem Rd.cut{e:Ty}{ad:Option Addr}{len cap:Nat}{x:List e.den}(h:Rd w M (.slice e) [.slice ad len cap] x){l hh m:Int}(h0:0≤l)(h1:l≤hh)(h2:hh≤m)(hl:hh≤x.length):
  Rd w M (.slice e) [.slice (if m.toNat=l.toNat then ad else ad.map (·.add (l.toNat*e.size))) (hh.toNat-l.toNat) (m.toNat-l.toNat)] (List.drop l.toNat (List.take hh.toNat x)):=by
 simp only[Rd,List.cons.injEq,and_true]at h ⊢
 obtain⟨a',jq,hv,hc,hr⟩:=h
 cases hv
 have hlen:List.length (List.drop l.toNat (List.take hh.toNat x))=hh.toNat-l.toNat:=by rw[List.length_drop,List.length_take];omega
 refine⟨_,_,by rw[hlen],by rw[hlen];omega,fun i hi=> ?_⟩
 rw[hlen]at hi
 obtain⟨b,off,ha,hb,hm,cs,lL,gV⟩:=hr (l.toNat+i) (by omega)
 rw[if_neg (by omega)]
 refine⟨b,off+l.toNat*e.size,by rw[ha];simp[Addr.add_lit],hb,hm,cs,?_,?_⟩
 ·rw[show off+l.toNat*e.size+i*e.size=off+(l.toNat+i)*e.size from by rw[Nat.add_mul];omega];exact lL
 ·simp only[List.get_eq_getElem,List.getElem_drop,List.getElem_take]at gV ⊢
  exact gV
theorem VR.emp{H:Nat→Option aP}{v:Value}:VR w M H ν .emp v↔ ∃ad,v= .slice ad 0 0:=by simp[VR]
theorem NF(hE:EnvTy P E)(hc:Core c σ a.tmps w M ν){t:TypeId}{x:Operand}{lo hi mx:Option Operand}(ho:o.op= .slice t x lo hi mx){K:fm α}{τ:Ty}(ht:E.ty t=some τ)
  (h:mB τ (lo.isNone&&iv hi&&iv mx) (σ.ρ x) (lo.map σ.ρ) (hi.map σ.ρ) (mx.map σ.ρ) σ.H K=some r) (hn:dM c σ a o w M ν K r next):o.wp P a w next Q:=by
 have tP:=hE.ty t τ ht
 have hv:=hc.ev x
 have hz0: ∀(e:Ty) (e':TypeId) (ad:Option Addr) (len cap:Nat),P.underlying t=some (.slice e')→gA P e e'→a.eval x= .slice ad len cap→(lo.isNone&&iv hi&&iv mx)=true→
   ∃ad',(execOp a.eval o).run P w= .ok (.value (.slice ad' 0 0)) w:=by
  intro e e' ad len cap hu hle hx hz
  simp only[Bool.and_eq_true]at hz
  obtain⟨⟨h1,h2⟩,h3⟩:=hz
  have h1:lo=none:=by simpa using h1
  subst h1
  obtain⟨k2,h2⟩:=wB h2 a
  obtain⟨k3,h3⟩:=wB h3 a
  have:=o9 (P:=P) (w:=w) ho hu hle hx (l:=0) (h:=0) (m:=0) (.inl ⟨rfl,rfl⟩) (.inr ⟨k2,h2⟩) (.inr ⟨k3,h3⟩) (.inr (by rw[h2];rfl)) (by omega) (by omega) (by omega) (by omega)
  exact⟨_,this⟩
 unfold mB at h
 split at h
 ·rename_i s hx
  obtain⟨hm,h⟩:=bB h
  obtain⟨l,h,xv⟩:=mG hc h
  obtain⟨hh,h,D4⟩:=mG hc h
  obtain⟨hk,h⟩:=bB h
  rw[tG]at hk
  obtain⟨h0,h1,h2,h3⟩:=of_decide_eq_true hk
  rw[hx]at hv
  exact aK (AT ho tP.str hv.str xv D4 (by simpa using hm) h0 h1 h2) (hn _ [] [] _ _ _ _ h (.refl hc.mem) (.mkStr _))
 ·rename_i e hx
  obtain⟨e',hu,hle⟩:=tP.slice
  rw[hx]at hv
  obtain⟨ad,hv⟩:=VR.emp.1 hv
  cases hz:(lo.isNone&&iv hi&&iv mx)
  ·rw[hz]at h
   replace h:cond (mx.map σ.ρ).isNone (sO (lo.map σ.ρ) 0 fun l=>sO (hi.map σ.ρ) 0 fun h=>cond (fE l h 0 0) (K .emp [] []) none) none=some r:=h
   obtain⟨hm,h⟩:=bB h
   obtain⟨l,h,xv⟩:=mG hc h
   obtain⟨hh,h,D4⟩:=mG hc h
   obtain⟨hk,hK⟩:=bB h
   rw[tG]at hk
   obtain⟨h0,h1,h2,h3⟩:=of_decide_eq_true hk
   have gD:mx=none:=by simpa using hm
   subst gD
   have:=o9 (P:=P) (w:=w) ho hu hle hv xv D4 (.inl ⟨rfl,rfl⟩) (.inl rfl) h0 h1 (m:=0) (by omega) (by omega)
   refine aK this (hn _ [] [] _ _ _ _ hK (.refl hc.mem) (VR.emp.2 ?_))
   rw[show hh.toNat-l.toNat=0 from by omega,show(0:Int).toNat-l.toNat=0 from by omega]
   exact⟨_,rfl⟩
  ·rw[hz]at h
   obtain⟨ad',cA⟩:=hz0 e e' ad 0 0 hu hle hv hz
   exact aK cA (hn _ [] [] _ _ _ _ h (.refl hc.mem) (VR.emp.2 ⟨_,rfl⟩))
 ·rename_i e g9
  obtain⟨e',hu,hle⟩:=tP.slice
  cases hz:(lo.isNone&&iv hi&&iv mx)
  ·rw[hz]at h
   obtain⟨y,rd,ups,M',h,eP,hV,_⟩:=j1 (.refl _) hc.mem hv h
   replace h:cond ((mx.map σ.ρ).isNone||(hi.map σ.ρ).isSome) (sO (lo.map σ.ρ) 0 fun l=>sO (hi.map σ.ρ) (List.length y:Int) fun h=>sO (mx.map σ.ρ) (List.length y:Int) fun m=>
    cond (fE l h m (List.length y:Int)) (K (.val (.slice e) (List.drop l.toNat (List.take h.toNat y))) rd ups) none) none=some r:=h
   obtain⟨hm,h⟩:=bB h
   obtain⟨l,h,xv⟩:=mG hc h
   obtain⟨hh,h,D4⟩:=mG hc h
   obtain⟨m,h,Lg⟩:=mG hc h
   obtain⟨hk,h⟩:=bB h
   rw[tG]at hk
   obtain⟨h0,h1,h2,h3⟩:=of_decide_eq_true hk
   have hr:=V.slice.1 hV
   have dx:=hr
   simp only[Rd,List.cons.injEq,and_true]at dx
   obtain⟨ad,cap,hx,adZ,_⟩:=dx
   rw[hx]at hr
   have gD:(mx.map a.eval).isNone=true∨(hi.map a.eval).isSome=true:=by
    simp only[Bool.or_eq_true,Option.isNone_map,Option.isSome_map]at hm ⊢;exact hm
   have Y9: ∃m',QL (mx.map a.eval) cap m'∧hh≤m'∧m'≤cap:=by
    rcases Lg with⟨h9,_⟩|⟨k,h9⟩
    ·exact⟨cap,.inl ⟨h9,rfl⟩,by omega,Int.le_refl _⟩
    ·exact⟨m,.inr ⟨k,h9⟩,h2,by omega⟩
   obtain⟨m',Y9,h4,h5⟩:=Y9
   have cA:=o9 (P:=P) (w:=w) ho hu hle hx xv D4 Y9 gD h0 h1 h4 h5
   refine aK cA (hn _ _ _ _ _ M' _ h eP ?_)
   simp only[VR]
   exact V.slice.2 (hr.cut h0 h1 h4 (by omega))
  ·rw[hz]at h
   obtain⟨y,rd,h,hS⟩:=wv hc.mem hv h
   obtain⟨ad,cap,hx,_⟩:=hS
   obtain⟨ad',cA⟩:=hz0 e e' ad _ cap hu hle hx hz
   exact aK cA (hn _ _ [] _ _ _ _ h (.refl hc.mem) (VR.emp.2 ⟨_,rfl⟩))
 ·cases h
end VM
end
section
namespace VM
open Go
variable{P:Program}{E:Env}{o:Oper}{a:Act}{w:World}{M:Nat→Prop}{ν:Nat→Value}{σ:St}{c:Ctx}{α:Type}{r:α}{next:Act→World→Prop}{Q:Exit→Act→World→Prop}
theorem nV{t ty e:TypeId}{i:TypeInfo}(ht:P.underlying t=some (.slice e))(hi:P.info? e=some i)(base:Option Addr)(n cap:Nat)(h:n≤cap)(a':Option Addr)(cp:Nat):
  (Builtin.append_ #[t,t] ty #[.slice base n cap,.slice a' 0 cp]).run P w= .ok (.slice base n cap) w:=by
 cases a'<;>cases base<;>simp[Builtin.append_,run_underlying ht,Go.sizeOf,typeInfo,hi,Builtin.lenOf,h,Builtin.firstCells,loadCells,loadCellsFrom,storeCells]
theorem EE{t ty e te:TypeId}{i:TypeInfo}(ht:P.underlying t=some (.slice e))(hi:P.info? e=some i){b n cap m cp:Nat}{a':Addr}{news:List Value}{cs:Array Value}
  (hg:w.heap[b]? =some (.cells cs te (0,0))) (hs:cs.size=cap*i.size) (hl:news.length=m*i.size) (hn: ∀j u,news[j]? =some u→w.cell? (a'.add j)=some u) (h1: ∀u∈news,u.oneCell'=true) (hr:n+m≤cap):
  (Builtin.append_ #[t,t] ty #[.slice (some ⟨b,0,none⟩) n cap,.slice (some a') m cp]).run P w= .ok (.slice (some ⟨b,0,none⟩) (n+m) cap) (w.setRow b (dj cs.toList (n*i.size) news).toArray):=by
 have hf:=run_firstCells_some (P:=P) w i.size m a' m cp news hl hn
 have hm:(n+m)*i.size≤cap*i.size:=Nat.mul_le_mul_right _ hr
 rw[Nat.add_mul]at hm
 have HO:=run_storeCells_at (P:=P) b (n*i.size) te news 0 cs w hg (by omega) h1
 simp only[Nat.add_zero]at HO
 simp[Builtin.append_,run_underlying ht,Go.sizeOf,typeInfo,hi,Builtin.lenOf,hr,hf,Addr.add_lit,HO,dj]
theorem eM{args:Array Operand}{t:TypeId}{x y:Operand}{v:Value}{w':World}(ho:o.op= .call {callee:= .builtin .append,args,argTypes:= #[t,t]})(ha:args.toList=[x,y])
  (h:(Builtin.append_ #[t,t] o.type #[a.eval x,a.eval y]).run P w= .ok v w'):(execOp a.eval o).run P w= .ok (.value v) w':=by
 obtain⟨cs,hr⟩:=mD (P:=P) (ρ:=a.eval) ho (w:=w)
 rw[hr]
 have:args.map a.eval= #[a.eval x,a.eval y]:=by apply Array.ext';simp[ha]
 rw[this]
 simp[builtin,h]
theorem yO{H:Nat→Option aP}(hm:Mem c H w M ν){id:Nat}(aT:H id=none){t ty:TypeId}{e':TypeId}{e:Ty}(hu:P.underlying t=some (.slice e'))(hle:gA P e e')
  {xs ys:List e.den} {olds news:List Value} {base:Option Addr} {cap cp:Nat} {a':Addr} (NG:base=none→xs=[]∧cap=0)
  (xv:olds.length=xs.length*e.size) (hro:mE w M e olds xs) (ho: ∀b,base=some b→ ∀j u,olds[j]? =some u→w.cell? (b.add j)=some u)
  (QM:news.length=ys.length*e.size) (hrn:mE w M e news ys) (hn: ∀j u,news[j]? =some u→w.cell? (a'.add j)=some u)
  (hg:cap<xs.length+ys.length) (hs:xs.length+ys.length<tx):
  ∃v w' M' ν',(Builtin.append_ #[t,t] ty #[.slice base xs.length cap,.slice (some a') ys.length cp]).run P w= .ok v w'∧Tr c H w M ν (bm H id (some (.own e (xs++ys)))) w' M' ν'∧ν' id=v:=by
 obtain⟨i,hi,nU,hz,Za⟩:=hle.base
 have hzs:(bF e e.b9).cells.size=e.size:=by rw[←Array.length_toList,eC,ky]
 have XK:xs.length+ys.length≤maxLen:=by simp only[tx,maxLen]at hs ⊢;omega
 have EF:(xs.length+ys.length)*i.bytes≤140737488355328:=by
  have:(xs.length+ys.length)*i.bytes≤68719476736*2048:=Nat.mul_le_mul (by simp only[tx]at hs;omega) Za
  omega
 have cA: ∃jq rest,(Builtin.append_ #[t,t] ty #[.slice base xs.length cap,.slice (some a') ys.length cp]).run P w= .ok (.slice (some ⟨w.heap.size,0,none⟩) (xs.length+ys.length) jq) (w.drew.alloc (.cells (olds++news++rest).toArray e'))∧
   xs.length+ys.length≤jq∧jq≤maxLen∧rest.length=(jq-(xs.length+ys.length))*e.size:=by
  refine⟨grownCap w (xs.length+ys.length) cap e',(Builtin.zeroCells (bF e e.b9).cells (grownCap w (xs.length+ys.length) cap e'-(xs.length+ys.length))).toList,?_,grownCap_ge _ _ _ _,grownCap_le_maxLen _ _ _ _ XK,?_⟩
  ·cases base with
   |none=>
    obtain⟨rfl,rfl⟩:=NG rfl
    have ho0:olds=[]:=List.eq_nil_of_length_eq_zero (by rw[xv];simp)
    subst ho0
    have:=run_append_nil (P:=P) w t ty e' i _ hu hi hz a' ys.length cp news (by rw[QM,nU]) hn (by simpa using hg) (by simp only[tx]at hs;omega) (by simp at EF;omega)
    simp only[List.length_nil,Nat.zero_add,List.nil_append]
    rw[this]
    congr 2
    apply congrArg (fun z=>Obj.cells z e' (0,0))
    apply Array.ext';simp
   |some b=>
    have:=run_append_grow (P:=P) w t ty e' i _ hu hi hz b xs.length cap olds (by rw[xv,nU]) (ho b rfl) a' ys.length cp news (by rw[QM,nU]) hn hg (by simp only[tx]at hs;omega) (growslice_fits hg EF)
    rw[this]
    congr 2
    apply congrArg (fun z=>Obj.cells z e' (0,0))
    apply Array.ext';simp
  ·rw[Array.length_toList,size_zeroCells,hzs]
 obtain⟨jq,rest,cA,AQ,Zb,ad4⟩:=cA
 have hlen:(xs++ys).length=xs.length+ys.length:=List.length_append
 have hd:=Tr.drew hm
 have hon:(olds++news).length=(xs++ys).length*e.size:=by rw[List.length_append,xv,QM,hlen,Nat.add_mul]
 have Iq:=Tr.row hd.mem aT e' (e:=e) (cs:=(olds++news++rest).toArray) (l:=xs++ys) (cap:=jq) (by rw[hlen];exact AQ) Zb
  (by rw[List.size_toArray,List.length_append,hon,ad4,hlen,←Nat.add_mul];congr 1;omega)
  (mE.more ((hro.append xv hrn).bs hd.bs) (by rw[hon];exact Nat.le_refl _))
 refine⟨_,_,_,_,cA,hd.trans Iq,?_⟩
 rw[←hlen];simp[cj]
theorem Lh(hE:EnvTy P E)(hc:Core c σ a.tmps w M ν){args:Array Operand}{ts:Array TypeId}{t t':TypeId}{x y:Operand}(ho:o.op= .call {callee:= .builtin .append,args,argTypes:=ts})(ha:args.toList=[x,y])(hts:ts.toList=[t,t']){K:fm α}{e:Ty}
  (ht:E.ty t=some (.slice e)) {id:Nat} (h:cond (Nat.beq t t') (mz σ.H id (.own e []) (Ek id e (σ.ρ x) (σ.ρ y) σ.H K)) none=some r) (hn:dM c σ a o w M ν K r next):o.wp P a w next Q:=by
 obtain⟨htt,h1⟩:=bB h
 clear h
 have htt:=Nat.eq_of_beq_eq_true htt
 subst htt
 obtain⟨aT,h⟩:=hZ h1
 clear h1
 have ajD:ts= #[t,t]:=by apply Array.ext';simpa using hts
 subst ajD
 obtain⟨e',hu,hle⟩:=(hE.ty t _ ht).slice
 obtain⟨i,hi,nU,hz,Za⟩:=hle.base
 have CJ:=hc.ev x
 unfold Ek at h
 obtain⟨ys,rd,h,hS⟩:=wv hc.mem (hc.ev y) h
 have Zc:(ys=[]∧ ∃a' cp,a.eval y= .slice a' 0 cp)∨(ys≠[]∧ ∃a' cp news,a.eval y= .slice (some a') ys.length cp∧news.length=ys.length*e.size∧(∀j u,news[j]? =some u→w.cell? (a'.add j)=some u)∧mE w M e news ys∧ ∀u∈news,u.oneCell'=true):=by
  by_cases hy:ys=[]
  ·left
   obtain⟨a',cp,hv,_⟩:=hS
   exact⟨hy,a',cp,by rw[hv,hy];rfl⟩
  ·right
   obtain⟨b,off,cp,news,hv,hl,lL,gV,h1⟩:=hS.cells hy
   exact⟨hy,⟨b,off,none⟩,cp,news,hv,hl,fun j u hj=>by rw[Addr.add_lit];exact lL j u hj,gV,h1⟩
 split at h
 ·
  rename_i hx
  rw[hx]at CJ
  obtain⟨ad,CJ⟩:=VR.emp.1 CJ
  obtain⟨QN,h⟩:=bB h
  rw[yA]at QN
  have QN:=of_decide_eq_true QN
  rcases Zc with⟨rfl,a',cp,xq⟩|⟨hy,a',cp,news,xq,hl,lL,gV,h1⟩
  ·refine aK (eM ho ha (by rw[CJ,xq];exact nV hu hi ad 0 0 (Nat.le_refl _) a' cp)) (hn _ _ _ _ _ _ _ h (Tr.nothing hc.mem aT e ad) ?_)
   simp only[VR]
   exact⟨by show bm _ id _ id≠none;rw[ak];simp,by simp[cj]⟩
  ·have Ir:0<ys.length:=List.length_pos_iff.2 hy
   obtain⟨v,w',M',ν',cA,eP,hv⟩:=yO (P:=P) (ty:=o.type) hc.mem aT hu hle (xs:=[]) (ys:=ys) (olds:=[]) (news:=news) (base:=ad) (cap:=0) (cp:=cp) (a':=a') (fun _=>⟨rfl,rfl⟩) (by simp) (fun i hi=>absurd hi (by simp)) (fun _ _ j u hj=>by simp at hj)
    hl gV lL (by simpa using Ir) (by simpa using QN)
   refine aK (eM ho ha (by rw[CJ,xq];exact cA)) (hn _ _ _ _ _ _ _ h eP ?_)
   simp only[VR]
   exact⟨by show bm _ id _ id≠none;rw[ak];simp,hv.symm⟩
 ·
  rename_i j hx
  rw[hx]at CJ
  simp only[VR]at CJ
  obtain⟨_,CJ⟩:=CJ
  split at h
  ·rename_i e1 l hj
   obtain⟨e2,h⟩:=a7 h
   cases e2
   obtain⟨QN,h⟩:=bB h
   rw[yA]at QN
   have QN:l.length+ys.length<tx:=of_decide_eq_true QN
   have g9:id≠j:=fun e=>by rw[e,hj]at aT;cases aT
   have lf:bm σ.H j (some .gone) id=none:=by rw[an _ _ g9];exact aT
   have HU:=Tr.gone hc.mem j
   have jb:=hc.mem.iO j _ hj
   simp only[ER]at jb
   rcases jb with⟨rfl,ad,Zd⟩|⟨b,cs,te,cap,Zd,hg,hM,M5,hl,Bn,hs,hr⟩
   ·rw[Zd]at CJ
    rcases Zc with⟨rfl,a',cp,xq⟩|⟨hy,a',cp,news,xq,hl,lL,gV,h1⟩
    ·refine aK (eM ho ha (by rw[CJ,xq];exact nV hu hi ad 0 0 (Nat.le_refl _) a' cp)) (hn _ _ _ _ _ _ _ h (HU.trans (Tr.nothing HU.mem lf e ad)) ?_)
     simp only[VR]
     exact⟨by show bm _ id _ id≠none;rw[ak];simp,by simp[cj]⟩
    ·have Ir:0<ys.length:=List.length_pos_iff.2 hy
     obtain⟨v,w',M',ν',cA,eP,hv⟩:=yO (P:=P) (ty:=o.type) HU.mem lf hu hle (xs:=[]) (ys:=ys) (olds:=[]) (news:=news) (base:=ad) (cap:=0) (cp:=cp) (a':=a') (fun _=>⟨rfl,rfl⟩) (by simp) (fun i hi=>absurd hi (by simp)) (fun _ _ j u hj=>by simp at hj)
      hl gV lL (by simpa using Ir) (by simpa using QN)
     refine aK (eM ho ha (by rw[CJ,xq];exact cA)) (hn _ _ _ _ _ _ _ h (HU.trans eP) ?_)
     simp only[VR]
     exact⟨by show bm _ id _ id≠none;rw[ak];simp,hv.symm⟩
   ·rw[Zd]at CJ
    have D3:cs.toList.length=cap*e.size:=by rw[Array.length_toList,hs]
    have CO:l.length*e.size≤cap*e.size:=Nat.mul_le_mul_right _ hl
    rcases Zc with⟨rfl,a',cp,xq⟩|⟨hy,a',cp,news,xq,QM,lL,gV,h1⟩
    ·refine aK (eM ho ha (by rw[CJ,xq];exact nV hu hi _ _ cap hl a' cp)) (hn _ _ _ _ _ M (cj ν id (ν j)) h ?_ ?_)
     ·refine Tr.rename hc.mem hj aT (.inr rfl) ?_
      rw[List.append_nil]
      exact hc.mem.iO j _ hj
     ·simp only[VR]
      exact⟨by show bm _ id _ id≠none;rw[ak];simp,by simp[cj,Zd]⟩
    ·by_cases tV:l.length+ys.length≤cap
     ·have hmul:(l.length+ys.length)*e.size≤cap*e.size:=Nat.mul_le_mul_right _ tV
      rw[Nat.add_mul]at hmul
      have cA:=EE (P:=P) (ty:=o.type) hu hi (w:=w) (b:=b) (n:=l.length) (cap:=cap) (m:=ys.length) (cp:=cp) (a':=a') (news:=news) (cs:=cs) hg (by rw[hs,nU]) (by rw[QM,nU]) lL h1 tV
      rw[nU]at cA
      have Re:dj cs.toList (l.length*e.size) news=(cs.toList.take (l.length*e.size)++news)++cs.toList.drop (l.length*e.size+news.length):=rfl
      have hold:mE w M e (cs.toList.take (l.length*e.size)) l:=mE.take hr (Nat.le_refl _)
      have htl:(cs.toList.take (l.length*e.size)).length=l.length*e.size:=by rw[List.length_take];omega
      have XL:mE w M e (dj cs.toList (l.length*e.size) news) (l++ys):=by
       rw[Re]
       refine mE.more (hold.append htl gV) ?_
       rw[List.length_append,List.length_append,htl,QM,Nat.add_mul];exact Nat.le_refl _
      have hsl:(dj cs.toList (l.length*e.size) news).length=cap*e.size:=by rw[ec (by omega)];exact D3
      have Rm:Tr c σ.H w M ν (bm σ.H j (some (.own e l))) (w.setRow b (dj cs.toList (l.length*e.size) news).toArray) M ν:=by
       refine Tr.write (e':= .own e l) hc.mem hj trivial trivial (.refl _) (by rw[Zd];simp[ej];omega) hg fun HN hk vw=> ?_
       simp only[ER]
       refine .inr ⟨b,_,te,cap,Zd,setRow_heap w b cs _ te _ hg,vw,M5,hl,Bn,by rw[List.size_toArray];exact hsl,fun k AO=> ?_⟩
       have:=(XL k (by rw[List.length_append];omega)).bs hk
       rw[List.getElem_append_left AO]at this
       exact this
      rw[vu hj]at Rm
      have qB:Tr c σ.H (w.setRow b (dj cs.toList (l.length*e.size) news).toArray) M ν (bm (bm σ.H j (some .gone)) id (some (.own e (l++ys)))) (w.setRow b (dj cs.toList (l.length*e.size) news).toArray) M (cj ν id (.slice (some ⟨b,0,none⟩) (l++ys).length cap)):=by
       refine Tr.rename Rm.mem hj aT (.inr (by rw[Zd];simp[ej])) ?_
       simp only[ER]
       refine .inr ⟨b,_,te,cap,rfl,setRow_heap w b cs _ te _ hg,hM,M5,by rw[List.length_append];exact tV,Bn,by rw[List.size_toArray];exact hsl,(XL.bs Rm.bs)⟩
      refine aK (eM ho ha (by rw[CJ,xq];exact cA)) (hn _ _ _ _ _ _ _ h (Rm.trans qB) ?_)
      simp only[VR]
      exact⟨by show bm _ id _ id≠none;rw[ak];simp,by simp[cj]⟩
     ·obtain⟨v,w',M',ν',cA,eP,hv⟩:=yO (P:=P) (ty:=o.type) HU.mem lf hu hle (xs:=l) (ys:=ys) (olds:=cs.toList.take (l.length*e.size)) (news:=news) (base:=some ⟨b,0,none⟩) (cap:=cap) (cp:=cp) (a':=a') (fun h=>by cases h)
       (by rw[List.length_take];omega) (mE.take hr (Nat.le_refl _)) (fun b' dw k u hk=>by
        cases dw
        rw[Addr.add_lit,cell_of hg]
        rw[List.getElem?_take]at hk
        split at hk
        ·rw[←Array.getElem?_toList];simpa using hk
        ·cases hk)
       QM gV lL (by omega) QN
      refine aK (eM ho ha (by rw[CJ,xq];exact cA)) (hn _ _ _ _ _ _ _ h (HU.trans eP) ?_)
      simp only[VR]
      exact⟨by show bm _ id _ id≠none;rw[ak];simp,hv.symm⟩
  ·cases h
 ·cases h
end VM
end
section
namespace VM
open Go
variable{P:Program}{E:Env}{o:Oper}{a:Act}{w:World}{M:Nat→Prop}{ν:Nat→Value}{σ:St}{c:Ctx}{α:Type}{r:α}{next:Act→World→Prop}{Q:Exit→Act→World→Prop}
def qn:{m:AM}→{ms:List AM}→HP (m::ms)→m.den
 |_,[],x=>x
 |_,_::_,x=>x.1
def vj:{m:AM}→{ms:List AM}→HP (m::ms)→HP ms
 |_,[],_=>()
 |_,_::_,x=>x.2
def AM.fG:AM→Bool
 | .io _=>true
 |_=>false
def AM.Rn:AM→Bool
 | .fn _ _| .fD _=>true
 |_=>false
def A1(w:World)(M:Nat→Prop):(m:AM)→m.den→Value→Prop
 | .v τ,x,v=>V w M τ v x
 | .own e,x,v=>ER w M v (.own e x)
 | .io τ,x,v=>ER w M v (.obj τ x)
 | .fn f τ,x,v=>VR w M (fun _=>none) (fun _=>undef) (.Eg f (lF τ x)) v
 | .ptr τ,x,v=>ER w M v (.obj τ x)
 | .fD τ,x,v=>VR w M (fun _=>none) (fun _=>undef) (.my τ x) v
def fR(w:World)(M:Nat→Prop):(ms:List AM)→HP ms→List Value→Prop
 |[],_,vs=>vs=[]
 |_::ms,x,vs=> ∃v D5,vs=v::D5∧A1 w M _ (qn x) v∧fR w M ms (vj x) D5
def ct:AM→Value→List Nat
 | .own _,v| .io _,v| .ptr _,v=>(ej v).toList
 |_,_=>[]
def cG:List AM→List Value→List Nat
 |m::ms,v::vs=>ct m v++cG ms vs
 |_,_=>[]
def du:List AM→List Value→List Value
 |m::ms,v::vs=>if m.fG then v::du ms vs else du ms vs
 |_,_=>[]
def kG:List AM→List Ty
 | .io τ::ms=>τ::kG ms
 |_::ms=>kG ms
 |[]=>[]
def RR(w:World)(M:Nat→Prop):(ms:List AM)→HP ms→List Value→List Value→Prop
 |[],_,vs,ps=>vs=[]∧ps=[]
 |m::ms,x,vs,ps=>(∃p AU,m.fG=true∧ps=p::AU∧A1 w M m (qn x) p∧RR w M ms (vj x) vs AU)∨
  (∃v D5,m.fG=false∧m.Rn=false∧vs=v::D5∧A1 w M m (qn x) v∧RR w M ms (vj x) D5 ps)
def a8:List AM→List Value→List Value→List Nat
 |[],_,_=>[]
 |m::ms,vs,ps=>if m.fG then ct m (ps.headD undef)++a8 ms vs ps.tail else ct m (vs.headD undef)++a8 ms vs.tail ps
def Ty.flat:Ty→Bool
 | .slice _=>false
 | .pair a b=>a.flat&&b.flat
 | .arr _ e=>e.flat
 |_=>true
def AM.flat:AM→Bool
 | .v τ| .io τ| .own τ| .ptr τ=>τ.flat
 | .fn _ _| .fD _=>false
def qF(vs:List Value):Value:=if h:vs.length=1 then vs[0]else .tuple vs.toArray
structure Left(w:World)(M0:Nat→Prop)(hs:List Nat)(w':World)(M':Nat→Prop):Prop where
 sub: ∀b,M0 b→M' b
 yD: ∀b,M' b→b<w'.heap.size
 less: ∀b,b<w.heap.size→M' b→M0 b∨b∈hs
 frame: ∀b,b<w.heap.size→b∉hs→w'.heap[b]? =w.heap[b]?
 size:w.heap.size≤w'.heap.size
 os:w'.os=w.os
 tape:w'.tape=w.tape
 output:w'.output=w.output
def EG(P:Program)(f:FuncId)(args:Array Value)(w:World)(R:Value→World→Prop):Prop:=
 ∀(o:Oper) (a:Act) (next:Act→World→Prop) (Q:Exit→Act→World→Prop),(∀v w',R v w'→next (a.put o.dst v) w')→o.upon P a next Q ((callFunc f args).run P w)
theorem EG.mono{f:FuncId}{args:Array Value}{R R':Value→World→Prop}(h:EG P f args w R)(hr: ∀v w',R v w'→R' v w'):EG P f args w R':=
 fun o a next Q hn=>h o a next Q fun v w' hv=>hn v w' (hr v w' hv)
theorem og{f:FuncId}{fn:Func}{args:Array Value}{R:Value→World→Prop}(hf:P.funcs[f]? =some fn)(hn:(fn.name== "runtime.NumGoroutine")=false)(hb:fn.body.isNone=false)
  (h:Calls P f args w fun e w'=> ∃v,e= .returned v∧R v w'):EG P f args w R:=by
 intro o a next Q sE
 have hn': ¬fn.name= "runtime.NumGoroutine" :=by simpa using hn
 have dw: ¬fn.body=none:=fun e=>by rw[e]at hb;cases hb
 have:(callFunc f args).run P w= .ok (.enter f args) w:=by simp[callFunc,hf,hn',dw]
 rw[this,Oper.upon_enter]
 refine Calls.mono h ?_
 rintro e w' ⟨v,rfl,hR⟩
 exact sE v w' hR
theorem AV{f:FuncId}{args:Array Value}{R:Value→World→Prop}{v:Value}{w':World}(h:(callFunc f args).run P w= .ok (.value v) w')(hR:R v w'):EG P f args w R:=by
 intro o a next Q sE
 rw[h,Oper.upon_value]
 exact sE v w' hR
structure eQ(P:Program)(f:FuncId)(S:g8):Prop where
 quiet:S.quiet=true→S.res.all AM.flat=true
 ios:kG S.args=kG S.res
 call: ∀(M0:Nat→Prop) (w:World) (vs:List Value) (x:HP S.args) (y:HP S.res),(∀b,M0 b→b<w.heap.size)→
  fR w (fun b=>M0 b∨b∈cG S.args vs) S.args x vs→(cG S.args vs).Nodup→(∀b∈cG S.args vs,¬M0 b)→S.run x=some y→
  EG P f vs.toArray w fun v w'=> ∃us M',v=qF us∧RR w' M' S.res y us (du S.args vs)∧Left w M0 (cG S.args vs) w' M'∧
   (a8 S.res us (du S.args vs)).Nodup∧ ∀b∈a8 S.res us (du S.args vs),¬M0 b
theorem Rd.flat{w:World}{M M':Nat→Prop}: ∀{τ:Ty} {cs:List Value} {x:τ.den},τ.flat=true→Rd w M τ cs x→Rd w M' τ cs x
 | .int _,_,_,_,h| .bool,_,_,_,h| .str,_,_,_,h| .unit,_,_,_,h=>h
 | .slice _,_,_,hf,_=>by simp[Ty.flat]at hf
 | .pair a b,_,_,hf,h=>by
  simp only[Ty.flat,Bool.and_eq_true]at hf
  simp only[Rd]at h ⊢
  obtain⟨c1,c2,rfl,h1,h2⟩:=h
  exact⟨c1,c2,rfl,h1.flat hf.1,h2.flat hf.2⟩
 | .arr n e,_,x,hf,h=>by
  simp only[Ty.flat]at hf
  simp only[Rd]at h ⊢
  obtain⟨hn,K4,hc,rfl,hr⟩:=h
  exact⟨hn,K4,hc,rfl,fun i hi iF=>(hr i hi iF).flat hf⟩
theorem A1.flat{w:World}{M M':Nat→Prop}(hM: ∀b,M b→M' b){m:AM}{x:m.den}{v:Value}(hf:m.flat=true)(h:A1 w M m x v):A1 w M' m x v:=by
 cases m with
 |v τ=>
  simp only[A1,V,AM.flat]at h hf ⊢
  split
  ·rename_i ha;rw[if_pos ha]at h;obtain⟨cs,h1,h⟩:=h;exact⟨cs,h1,h.flat hf⟩
  ·rename_i ha;rw[if_neg ha]at h;exact h.flat hf
 |own e=>
  simp only[A1,ER,AM.flat]at h hf ⊢
  rcases h with h|⟨b,cs,t,cap,h1,h2,h3,h4,h5,h6,h7,h8⟩
  ·exact .inl h
  ·exact .inr ⟨b,cs,t,cap,h1,h2,hM b h3,h4,h5,h6,h7,fun i hi=>(h8 i hi).flat hf⟩
 |io τ=>
  simp only[A1,ER,AM.flat]at h hf ⊢
  obtain⟨b,cs,t,h1,h2,h3,h4⟩:=h
  exact⟨b,cs,t,h1,h2,hM b h3,h4.flat hf⟩
 |fn f τ=>simp[AM.flat]at hf
 |fD τ=>simp[AM.flat]at hf
 |ptr τ=>
  simp only[A1,ER,AM.flat]at h hf ⊢
  obtain⟨b,cs,t,h1,h2,h3,h4⟩:=h
  exact⟨b,cs,t,h1,h2,hM b h3,h4.flat hf⟩
theorem RR.flat{w:World}{M M':Nat→Prop}(hM: ∀b,M b→M' b): ∀{ms:List AM} {x:HP ms} {vs ps:List Value},ms.all AM.flat=true→RR w M ms x vs ps→RR w M' ms x vs ps
 |[],_,_,_,_,h=>h
 |m::ms,x,vs,ps,hf,h=>by
  simp only[List.all_cons,Bool.and_eq_true]at hf
  simp only[RR]at h ⊢
  rcases h with⟨p,AU,h1,h2,h3,h4⟩|⟨v,D5,h1,h2,h3,h4,h5⟩
  ·exact .inl ⟨p,AU,h1,h2,h3.flat hM hf.1,RR.flat hM hf.2 h4⟩
  ·exact .inr ⟨v,D5,h1,h2,h3,h4.flat hM hf.1,RR.flat hM hf.2 h5⟩
theorem A1.qG{w w':World}{M M':Nat→Prop}(k:di w M w' M'){m:AM}{x:m.den}{v:Value}(hm: ∀b∈ct m v,w'.heap[b]? =w.heap[b]? ∧M' b)(h:A1 w M m x v):A1 w' M' m x v:=by
 cases m with
 |v τ=>exact V.bs k h
 |own e=>
  simp only[A1]at h ⊢
  exact ER.bs k (fun _ b hb=>hm b (by simp[ct,hb])) h
 |io τ=>
  simp only[A1]at h ⊢
  exact ER.bs k (fun _ b hb=>hm b (by simp[ct,hb])) h
 |fn f τ=>exact VR.bs k (.refl _ _) h
 |fD τ=>exact VR.bs k (.refl _ _) h
 |ptr τ=>
  simp only[A1]at h ⊢
  exact ER.bs k (fun _ b hb=>hm b (by simp[ct,hb])) h
theorem fR.qG{w w':World}{M M':Nat→Prop}(k:di w M w' M'): ∀{ms:List AM} {x:HP ms} {vs:List Value},(∀b∈cG ms vs,w'.heap[b]? =w.heap[b]? ∧M' b)→fR w M ms x vs→fR w' M' ms x vs
 |[],_,_,_,h=>h
 |m::ms,x,vs,hm,h=>by
  simp only[fR]at h ⊢
  obtain⟨v,D5,rfl,h1,h2⟩:=h
  exact⟨v,D5,rfl,h1.qG k (fun b hb=>hm b (by simp[cG,hb])),fR.qG k (fun b hb=>hm b (by simp[cG,hb])) h2⟩
theorem RR.qG{w w':World}{M M':Nat→Prop}(k:di w M w' M'): ∀{ms:List AM} {x:HP ms} {us ps:List Value},(∀b∈a8 ms us ps,w'.heap[b]? =w.heap[b]? ∧M' b)→RR w M ms x us ps→RR w' M' ms x us ps
 |[],_,_,_,_,h=>h
 |m::ms,x,us,ps,hm,h=>by
  simp only[RR]at h ⊢
  rcases h with⟨p,AU,h1,rfl,h2,h3⟩|⟨v,CP,h1,h2,rfl,h3,h4⟩
  ·simp only[a8,h1,if_true,List.headD_cons,List.tail_cons,List.mem_append]at hm
   exact .inl ⟨p,AU,h1,rfl,h2.qG k (fun b hb=>hm b (.inl hb)),RR.qG k (fun b hb=>hm b (.inr hb)) h3⟩
  ·simp only[a8,h1,Bool.false_eq_true,if_false,List.headD_cons,List.tail_cons,List.mem_append]at hm
   exact .inr ⟨v,CP,h1,h2,rfl,h3.qG k (fun b hb=>hm b (.inl hb)),RR.qG k (fun b hb=>hm b (.inr hb)) h4⟩
theorem yb{H:Nat→Option aP}(hm:Mem c H w M ν){a:aY}{v:Value}(hv:VR w M H ν a v){τ:Ty}{k:τ.den→List Nat→fl→Option α}{r:α}(h:iC true a H τ k=some r):
  ∃y rd ups,k y rd ups=some r∧((ups=[]∧V w M τ v y)∨ ∃id e l,ups=[(id,some (.ku e l))]∧H id=some (.own e l)∧
   ∀M',(∀b,M' b↔(M b∧ej (ν id)≠some b))→V w M' τ v y):=by
 unfold iC at h
 split at h
 ·obtain⟨e,h⟩:=a7 h
  subst e
  simp only[VR]at hv
  exact⟨_,[],[],h,.inl ⟨rfl,hv⟩⟩
 ·obtain⟨e,h⟩:=a7 h
  subst e
  simp only[VR]at hv
  exact⟨_,[],[],h,.inl ⟨rfl,hv.1⟩⟩
 ·split at h
  ·rename_i e k' _
   simp only[VR]at hv
   obtain⟨a,rfl⟩:=hv
   refine⟨[],[],[],h,.inl ⟨rfl,V.slice.2 ?_⟩⟩
   simp only[Rd]
   exact⟨a,0,rfl,Nat.le_refl _,fun i hi=>absurd hi (by simp)⟩
  ·cases h
 ·rename_i id
  simp only[VR]at hv
  obtain⟨_,rfl⟩:=hv
  split at h
  ·rename_i e l aT
   obtain⟨e',h⟩:=a7 h
   subst e'
   refine⟨_,_,_,h,.inr ⟨id,e,l,rfl,aT,fun M' hM'=> ?_⟩⟩
   obtain⟨M2,_,hV,CF⟩:=Tr.freeze hm aT
   have:M'=M2:=by funext b;exact propext ((hM' b).trans (CF b).symm)
   rw[this];exact hV
  ·rename_i e l aT
   obtain⟨e',h⟩:=a7 h
   subst e'
   have:=hm.iO id _ aT
   simp only[ER]at this
   exact⟨_,_,_,h,.inl ⟨rfl,V.slice.2 this.1⟩⟩
  ·cases h
 ·cases h
theorem NH{H:Nat→Option aP}(hm:Mem c H w M ν): ∀{a:Ty} {x:aY} {v:Value} {k:a.den→List Nat→fl→Option α} {r:α},VR w M H ν x v→wk x H a k=some r→
  ∃y rd ups,k y rd ups=some r∧(ups=[]→VR w M (fun _=>none) (fun _=>undef) (wm a y) v):=by
 intro a x v k r hv h
 unfold wk at h
 split at h
 ·rename_i a k
  split at h
  ·rename_i υ z
   obtain⟨e1,h⟩:=a7 h
   subst e1
   refine⟨_,_,_,h,fun _=> ?_⟩
   simp only[wm,VR]at hv ⊢
   exact hv
  ·cases h
 ·rename_i k0 qm
  obtain⟨y,rd,ups,h,hy⟩:=yb hm hv h
  refine⟨y,rd,ups,h,fun hu=> ?_⟩
  rcases hy with⟨_,hy⟩|⟨_,_,_,h3,_⟩
  ·have:wm _ y= .val _ y:=by
    unfold wm
    split
    ·exact(qm _ _ rfl HEq.rfl).elim
    ·rfl
   rw[this]
   simp only[VR];exact hy
  ·rw[hu]at h3;cases h3
theorem yP{H:Nat→Option aP}(hm:Mem c H w M ν): ∀{τ:Ty} {lK:List aY} {vs:List Value} {k:τ.den→List Nat→fl→Option α} {r:α},fF w M H ν lK vs→mA H τ lK k=some r→
  ∃x rd ups,k x rd ups=some r∧(ups=[]→fF w M (fun _=>none) (fun _=>undef) (lF τ x) vs)
 | .unit,[],[],k,r,_,h=>⟨(),[],[],h,fun _=>by simp[lF,fF]⟩
 | .pair a b,x::xs,v::vs,k,r,hv,h=>by
  simp only[fF]at hv
  unfold mA at h
  obtain⟨y,rd,ups,h,hy⟩:=NH hm hv.1 h
  obtain⟨ys,vq,jW,h,hys⟩:=yP hm hv.2 h
  refine⟨(y,ys),_,_,h,fun hu=> ?_⟩
  have h1:ups=[]:=(List.append_eq_nil_iff.1 hu).1
  have h2:jW=[]:=(List.append_eq_nil_iff.1 hu).2
  simp only[lF,fF]
  exact⟨hy h1,hys h2⟩
 | .unit,[],_::_,_,_,hv,_=>by simp[fF]at hv
 |_,_::_,[],_,_,hv,_=>by simp[fF]at hv
 | .unit,_::_,_,_,_,_,h=>by simp[mA]at h
 | .pair _ _,[],_,_,_,_,h=>by simp[mA]at h
 | .int _,_,_,_,_,_,h| .bool,_,_,_,_,_,h| .str,_,_,_,_,_,h| .slice _,_,_,_,_,_,h| .arr _ _,_,_,_,_,_,h=>by simp[mA]at h
end VM
end
section
namespace VM
open Go
variable{P:Program}{E:Env}{o:Oper}{a:Act}{w:World}{M:Nat→Prop}{ν:Nat→Value}{σ:St}{c:Ctx}{α:Type}{r:α}{next:Act→World→Prop}{Q:Exit→Act→World→Prop}
def keys{β:Type}(l:List (Nat×β)):List Nat:=l.map (·.1)
theorem jr{i:Nat}: ∀{ups:fl} {H:Nat→Option aP},i∉keys ups→bS H ups i=H i
 |[],_,_=>rfl
 |u::r,H,h=>by
  simp only[keys,List.map_cons,List.mem_cons,not_or]at h
  show bS (bm H u.1 u.2) r i=_
  rw[jr h.2,an _ _ h.1]
theorem tX(u:Nat×Option aP)(b:fl)(hb:u.1∉keys b): ∀(a:fl) (H:Nat→Option aP),bS H (a++u::b)=bm (bS H (a++b)) u.1 u.2
 |[],H=>by
  show bS (bm H u.1 u.2) b=bm (bS H b) u.1 u.2
  induction b generalizing H with
  |nil=>rfl
  |cons v b ih=>
   simp only[keys,List.map_cons,List.mem_cons,not_or]at hb
   show bS (bm (bm H u.1 u.2) v.1 v.2) b=bm (bS (bm H v.1 v.2) b) u.1 u.2
   rw[←ih hb.2]
   congr 1
   funext i
   by_cases h1:i=v.1
   ·subst h1;rw[ak,an _ _ (Ne.symm hb.1),ak]
   ·by_cases h2:i=u.1
    ·subst h2;rw[an _ _ h1,ak,ak]
    ·rw[an _ _ h1,an _ _ h2,an _ _ h2,an _ _ h1]
 |v::a,H=>tX u b hb a (bm H v.1 v.2)
structure ia(c:Ctx)(w:World)(M:Nat→Prop)(ν:Nat→Value)(H0 H1 Hq:Nat→Option aP)(M1:Nat→Prop)(uo uf:fl)(io:List (Nat×Ty))(hs:List Nat):Prop where
 mem:Mem c H1 w M1 ν
 Li:Mem c Hq w M ν
 bs:di w M w M1
 ext: ∀i,i∉keys io→bS H0 (uo++uf) i=H1 i
 Ro: ∀i,i∉keys io→bS H0 uo i=Hq i
 QO: ∀q∈io,H1 q.1=some .gone∧Hq q.1=some .gone∧ ∃x,H0 q.1=some (.obj q.2 x)
 ion:(keys io).Nodup
 ks: ∀i∈keys (uo++uf),∀e l,H1 i≠some (.own e l)
 ksn: ∀i∈keys (uo++uf),i∉keys io∧ ∃e l,H0 i=some (.own e l)
 fz:Fz Hq H1
 uov: ∀u∈uo,u.2=some .gone
 ufv: ∀u∈uf,∃e l,u.2=some (.ku e l)∧H0 u.1=some (.own e l)
 nd:hs.Nodup
 hM: ∀b∈hs,M1 b
 Is: ∀b∈hs,c.B≤b∨c.may b
 none: ∀b∈hs,∀i e,Hq i=some e→e.mut→ej (ν i)≠some b
 iob: ∀b∈hs,c.M0 b→ ∃q∈io,ej (ν q.1)=some b
 same: ∀i,i∉keys (uo++uf)→i∉keys io→H1 i=H0 i
theorem ia.start{H:Nat→Option aP}(hm:Mem c H w M ν):ia c w M ν H H H M [] [] [] []:=
 ⟨hm,hm,.refl w M,fun _ _=>rfl,fun _ _=>rfl,fun q hq=>by simp at hq,by simp[keys],fun i hi=>by simp[keys]at hi,fun i hi=>by simp[keys]at hi,.refl H,fun u hu=>by simp at hu,fun u hu=>by simp at hu,by simp,fun b hb=>by simp at hb,fun b hb=>by simp at hb,fun b hb=>by simp at hb,fun b hb=>by simp at hb,fun _ _ _=>rfl⟩
theorem Fz.Ze{H H1:Nat→Option aP}(h:Fz H H1){i:Nat}{e:Ty}{l:List e.den}(hi:H1 i=some (.own e l)):H i=some (.own e l):=by
 rcases h i with h'|⟨e',l',_,h'⟩
 ·rw[←h',hi]
 ·rw[hi]at h';cases h'
theorem Fz.ad9{H H1:Nat→Option aP}(h:Fz H H1){i:Nat}{e:Ty}{l:e.den}(hi:H1 i=some (.obj e l)):H i=some (.obj e l):=by
 rcases h i with h'|⟨e',l',_,h'⟩
 ·rw[←h',hi]
 ·rw[hi]at h';cases h'
theorem Fz.mut{H H1:Nat→Option aP}(h:Fz H H1){i:Nat}{e:aP}(hi:H1 i=some e)(hm:e.mut):H i=some e:=by
 cases e with
 |obj=>exact h.ad9 hi
 |dP=>
  rcases h i with h'|⟨e',l',_,h'⟩
  ·rw[←h',hi]
  ·rw[hi]at h';cases h'
 |own=>exact h.Ze hi
 |ku=>simp[aP.mut]at hm
 |gone=>simp[aP.mut]at hm
theorem ia.freeze{H0 H1 Hq:Nat→Option aP}{M1:Nat→Prop}{uo uf:fl}{io:List (Nat×Ty)}{hs:List Nat}(h:ia c w M ν H0 H1 Hq M1 uo uf io hs){id:Nat}{e:Ty}{l:List e.den}(aT:H1 id=some (.own e l)):
  ∃M2,ia c w M ν H0 (bm H1 id (some (.ku e l))) Hq M2 uo ((id,some (.ku e l))::uf) io hs∧di w M1 w M2∧(∀b,M2 b↔(M1 b∧ej (ν id)≠some b)):=by
 obtain⟨M2,eP,_,CF⟩:=Tr.freeze h.mem aT
 have rC:id∉keys io:=fun hk=>by
  obtain⟨q,hq,rfl⟩:=List.mem_map.1 hk
  have:=(h.QO q hq).1
  rw[aT]at this;cases this
 have Rp:id∉keys (uo++uf):=fun hk=>h.ks id hk e l aT
 have Zf:id∉keys uf:=fun hk=>Rp (by simp only[keys,List.map_append,List.mem_append];exact .inr hk)
 have h0:H0 id=some (.own e l):=by rw[←h.same id Rp rC];exact aT
 have hq:Hq id=some (.own e l):=h.fz.Ze aT
 have lN: ∀i,i∈keys (uo++(id,some (aP.ku e l))::uf)↔i=id∨i∈keys (uo++uf):=by
  intro i
  simp only[keys,List.map_append,List.map_cons,List.mem_append,List.mem_cons]
  constructor
  ·rintro(h|h|h)
   ·exact .inr (.inl h)
   ·exact .inl h
   ·exact .inr (.inr h)
  ·rintro(h|h|h)
   ·exact .inr (.inl h)
   ·exact .inl h
   ·exact .inr (.inr h)
 refine⟨M2,⟨eP.mem,h.Li,h.bs.trans eP.bs,fun i hi=> ?_,h.Ro,fun q qi=> ?_,h.ion,fun i hi e' l'=> ?_,fun i hi=> ?_,fun i=> ?_,h.uov,fun u hu=> ?_,h.nd,fun b hb=> ?_,h.Is,h.none,h.iob,fun i hi iF=> ?_⟩,eP.bs,CF⟩
 ·rw[tX _ _ Zf]
  by_cases bq:i=id
  ·subst bq;rw[ak,ak]
  ·rw[an _ _ bq,an _ _ bq];exact h.ext i hi
 ·obtain⟨h1,h2,h3⟩:=h.QO q qi
  have g9:q.1≠id:=fun e=>rC (e▸List.mem_map_of_mem qi)
  exact⟨by rw[an _ _ g9];exact h1,h2,h3⟩
 ·by_cases bq:i=id
  ·subst bq;rw[ak];intro h';cases h'
  ·rw[an _ _ bq]
   exact h.ks i (((lN i).1 hi).resolve_left bq) e' l'
 ·rcases(lN i).1 hi with rfl|hi
  ·exact⟨rC,e,l,h0⟩
  ·exact h.ksn i hi
 ·by_cases bq:i=id
  ·subst bq;exact .inr ⟨e,l,hq,ak _ _ _⟩
  ·rw[an _ _ bq];exact h.fz i
 ·rcases List.mem_cons.1 hu with rfl|hu
  ·exact⟨e,l,rfl,h0⟩
  ·exact h.ufv u hu
 ·exact(CF b).2 ⟨h.hM b hb,fun dw=>h.none b hb id _ hq trivial dw⟩
 ·have g9:i≠id:=fun e=>hi ((lN i).2 (.inl e))
  rw[an _ _ g9]
  exact h.same i (fun h'=>hi ((lN i).2 (.inr h'))) iF
theorem ia.hand{H0 H1 Hq:Nat→Option aP}{M1:Nat→Prop}{uo uf:fl}{io:List (Nat×Ty)}{hs:List Nat}(h:ia c w M ν H0 H1 Hq M1 uo uf io hs){id:Nat}{e:Ty}{l:List e.den}(aT:H1 id=some (.own e l)):
  ia c w M ν H0 (bm H1 id (some .gone)) (bm Hq id (some .gone)) M1 ((id,some .gone)::uo) uf io (hs++(ej (ν id)).toList):=by
 have rC:id∉keys io:=fun hk=>by
  obtain⟨q,hq,rfl⟩:=List.mem_map.1 hk
  have:=(h.QO q hq).1
  rw[aT]at this;cases this
 have Rp:id∉keys (uo++uf):=fun hk=>h.ks id hk e l aT
 have Zf:id∉keys uo:=fun hk=>Rp (by simp only[keys,List.map_append,List.mem_append];exact .inl hk)
 have h0:H0 id=some (.own e l):=by rw[←h.same id Rp rC];exact aT
 have hq:Hq id=some (.own e l):=h.fz.Ze aT
 have lN: ∀i,i∈keys ((id,some aP.gone)::uo++uf)↔i=id∨i∈keys (uo++uf):=by
  intro i
  simp only[keys,List.map_append,List.map_cons,List.cons_append,List.mem_append,List.mem_cons]
 have xp: ∀b,ej (ν id)=some b→b∉hs:=fun b hb dw=>h.none b dw id _ hq trivial hb
 refine⟨(Tr.gone h.mem id).mem,(Tr.gone h.Li id).mem,h.bs,fun i hi=> ?_,fun i hi=> ?_,fun q qi=> ?_,h.ion,fun i hi e' l'=> ?_,fun i hi=> ?_,fun i=> ?_,fun u hu=> ?_,h.ufv,?_,fun b hb=> ?_,fun b hb=> ?_,fun b hb i e' hi hm=> ?_,fun b hb hb0=> ?_,fun i hi iF=> ?_⟩
 ·have:=tX (id,some .gone) (uo++uf) Rp [] H0
  simp only[List.nil_append]at this
  rw[List.cons_append,this]
  by_cases bq:i=id
  ·subst bq;rw[ak,ak]
  ·rw[an _ _ bq,an _ _ bq];exact h.ext i hi
 ·have:=tX (id,some .gone) uo Zf [] H0
  simp only[List.nil_append]at this
  rw[this]
  by_cases bq:i=id
  ·subst bq;rw[ak,ak]
  ·rw[an _ _ bq,an _ _ bq];exact h.Ro i hi
 ·obtain⟨h1,h2,h3⟩:=h.QO q qi
  have g9:q.1≠id:=fun e=>rC (e▸List.mem_map_of_mem qi)
  exact⟨by rw[an _ _ g9];exact h1,by rw[an _ _ g9];exact h2,h3⟩
 ·by_cases bq:i=id
  ·subst bq;rw[ak];intro h';cases h'
  ·rw[an _ _ bq]
   exact h.ks i (((lN i).1 hi).resolve_left bq) e' l'
 ·rcases(lN i).1 hi with rfl|hi
  ·exact⟨rC,e,l,h0⟩
  ·exact h.ksn i hi
 ·by_cases bq:i=id
  ·subst bq;left;rw[ak,ak]
  ·rw[an _ _ bq,an _ _ bq];exact h.fz i
 ·rcases List.mem_cons.1 hu with rfl|hu
  ·rfl
  ·exact h.uov u hu
 ·refine List.nodup_append.2 ⟨h.nd,?_,fun x hx y hy=> ?_⟩
  ·cases ej (ν id)<;>simp
  ·rw[Option.mem_toList]at hy
   intro hxy;subst hxy
   exact xp x hy hx
 ·rcases List.mem_append.1 hb with hb|hb
  ·exact h.hM b hb
  ·rw[Option.mem_toList]at hb
   exact(h.mem.iO id _ aT).sP trivial hb
 ·rcases List.mem_append.1 hb with hb|hb
  ·exact h.Is b hb
  ·rw[Option.mem_toList]at hb
   exact h.mem.new id _ b aT trivial hb
 ·by_cases bq:i=id
  ·subst bq;rw[ak]at hi;cases hi;simp[aP.mut]at hm
  ·rw[an _ _ bq]at hi
   rcases List.mem_append.1 hb with hb|hb
   ·exact h.none b hb i e' hi hm
   ·rw[Option.mem_toList]at hb
    intro dw
    exact h.Li.vi i id e' _ b bq hi hm hq trivial dw hb
 ·rcases List.mem_append.1 hb with hb|hb
  ·exact h.iob b hb hb0
  ·rw[Option.mem_toList]at hb
   exact absurd hb0 (h.mem.tz id e l b aT hb)
 ·have g9:i≠id:=fun e=>hi ((lN i).2 (.inl e))
  rw[an _ _ g9]
  exact h.same i (fun h'=>hi ((lN i).2 (.inr h'))) iF
theorem ia.Zg{H0 H1 Hq:Nat→Option aP}{M1:Nat→Prop}{uo uf:fl}{io:List (Nat×Ty)}{hs:List Nat}(h:ia c w M ν H0 H1 Hq M1 uo uf io hs){id:Nat}{τ:Ty}{x:τ.den}(aT:H1 id=some (.obj τ x)):
  ia c w M ν H0 (bm H1 id (some .gone)) (bm Hq id (some .gone)) M1 uo uf (io++[(id,τ)]) (hs++(ej (ν id)).toList):=by
 have rC:id∉keys io:=fun hk=>by
  obtain⟨q,hq,rfl⟩:=List.mem_map.1 hk
  have:=(h.QO q hq).1
  rw[aT]at this;cases this
 have hq:Hq id=some (.obj τ x):=h.fz.ad9 aT
 have Rp:id∉keys (uo++uf):=fun hk=>by
  have h1:=h.ext id rC
  obtain⟨_,e,l,h0⟩:=h.ksn id hk
  have key: ∀(ups:fl) (H:Nat→Option aP),(∀u∈ups,u.2=some .gone∨ ∃e l,u.2=some (.ku e l))→id∈keys ups→bS H ups id=some .gone∨ ∃e l,bS H ups id=some (.ku e l):=by
   intro ups
   induction ups with
   |nil=>intro H _ hk;simp[keys]at hk
   |cons u ups ih=>
    intro H hv hk
    by_cases QP:id∈keys ups
    ·exact ih _ (fun v Ny=>hv v (List.mem_cons_of_mem _ Ny)) QP
    ·show bS (bm H u.1 u.2) ups id=_∨ ∃e l,bS (bm H u.1 u.2) ups id=_
     rw[jr QP]
     have hui:id=u.1:=by
      simp only[keys,List.map_cons,List.mem_cons]at hk QP
      exact hk.resolve_right QP
     rw[hui,ak]
     exact hv u List.mem_cons_self
  have:=key (uo++uf) H0 (fun u hu=>by
   rcases List.mem_append.1 hu with hu|hu
   ·exact .inl (h.uov u hu)
   ·obtain⟨e,l,h',_⟩:=h.ufv u hu;exact .inr ⟨e,l,h'⟩) hk
  rw[h1,aT]at this
  rcases this with h'|⟨_,_,h'⟩<;>cases h'
 have h0:H0 id=some (.obj τ x):=by rw[←h.same id Rp rC];exact aT
 have lN: ∀i,i∈keys (io++[(id,τ)])↔i∈keys io∨i=id:=by
  intro i
  simp only[keys,List.map_append,List.map_cons,List.map_nil,List.mem_append,List.mem_cons,List.not_mem_nil,or_false]
 have xp: ∀b,ej (ν id)=some b→b∉hs:=fun b hb dw=>h.none b dw id _ hq trivial hb
 refine⟨(Tr.gone h.mem id).mem,(Tr.gone h.Li id).mem,h.bs,fun i hi=> ?_,fun i hi=> ?_,fun q qi=> ?_,?_,fun i hi e' l'=> ?_,fun i hi=> ?_,fun i=> ?_,h.uov,h.ufv,?_,fun b hb=> ?_,fun b hb=> ?_,fun b hb i e' hi hm=> ?_,fun b hb hb0=> ?_,fun i hi iF=> ?_⟩
 ·rw[an _ _ (fun e=>hi ((lN i).2 (.inr e)))];exact h.ext i (fun h'=>hi ((lN i).2 (.inl h')))
 ·rw[an _ _ (fun e=>hi ((lN i).2 (.inr e)))];exact h.Ro i (fun h'=>hi ((lN i).2 (.inl h')))
 ·rcases List.mem_append.1 qi with qi|qi
  ·obtain⟨h1,h2,h3⟩:=h.QO q qi
   have g9:q.1≠id:=fun e=>rC (e▸List.mem_map_of_mem qi)
   exact⟨by rw[an _ _ g9];exact h1,by rw[an _ _ g9];exact h2,h3⟩
  ·rw[List.mem_singleton]at qi;subst qi
   exact⟨ak _ _ _,ak _ _ _,x,h0⟩
 ·simp only[keys,List.map_append,List.map_cons,List.map_nil]
  refine List.nodup_append.2 ⟨h.ion,by simp,fun x hx y hy=> ?_⟩
  rw[List.mem_singleton]at hy;subst hy
  intro e;exact rC (e▸hx)
 ·by_cases bq:i=id
  ·subst bq;rw[ak];intro h';cases h'
  ·rw[an _ _ bq];exact h.ks i hi e' l'
 ·obtain⟨h1,h2⟩:=h.ksn i hi
  exact⟨fun h'=>((lN i).1 h').elim h1 (fun e=>Rp (e▸hi)),h2⟩
 ·by_cases bq:i=id
  ·subst bq;left;rw[ak,ak]
  ·rw[an _ _ bq,an _ _ bq];exact h.fz i
 ·refine List.nodup_append.2 ⟨h.nd,?_,fun x hx y hy=> ?_⟩
  ·cases ej (ν id)<;>simp
  ·rw[Option.mem_toList]at hy
   intro hxy;subst hxy
   exact xp x hy hx
 ·rcases List.mem_append.1 hb with hb|hb
  ·exact h.hM b hb
  ·rw[Option.mem_toList]at hb
   exact(h.mem.iO id _ aT).sP trivial hb
 ·rcases List.mem_append.1 hb with hb|hb
  ·exact h.Is b hb
  ·rw[Option.mem_toList]at hb
   exact h.mem.new id _ b aT trivial hb
 ·by_cases bq:i=id
  ·subst bq;rw[ak]at hi;cases hi;simp[aP.mut]at hm
  ·rw[an _ _ bq]at hi
   rcases List.mem_append.1 hb with hb|hb
   ·exact h.none b hb i e' hi hm
   ·rw[Option.mem_toList]at hb
    intro dw
    exact h.Li.vi i id e' _ b bq hi hm hq trivial dw hb
 ·rcases List.mem_append.1 hb with hb|hb
  ·obtain⟨q,hq1,hq2⟩:=h.iob b hb hb0
   exact⟨q,List.mem_append_left _ hq1,hq2⟩
  ·rw[Option.mem_toList]at hb
   exact⟨(id,τ),by simp,hb⟩
 ·have g9:i≠id:=fun e=>iF ((lN i).2 (.inr e))
  rw[an _ _ g9]
  exact h.same i hi (fun h'=>iF ((lN i).2 (.inl h')))
end VM
end
section
namespace VM
open Go
variable{P:Program}{E:Env}{o:Oper}{a:Act}{w:World}{M:Nat→Prop}{ν:Nat→Value}{σ:St}{c:Ctx}{α:Type}{r:α}{next:Act→World→Prop}{Q:Exit→Act→World→Prop}
theorem oe.Zh{H:Nat→Option aP}{id:Nat}{e e':aP}(aT:H id=some e)(hl:e.hO e'):oe H ν (bm H id (some e')) ν:=
 ⟨fun i e1 hi=>by
  by_cases bq:i=id
  ·subst bq;rw[aT]at hi;cases hi;exact⟨e',ak _ _ _,hl⟩
  ·exact⟨e1,by rw[an _ _ bq];exact hi,.refl e1⟩,fun _ _=>rfl⟩
theorem aP.ka(e:aP):e.hO .gone:=by cases e<;>simp[aP.hO]
theorem VR.aeb{H H':Nat→Option aP}{ν':Nat→Value}{a:Ty}{x:a.den}{v:Value}(h:VR w M H ν (wm a x) v):VR w M H' ν' (wm a x) v:=by
 unfold wm at h ⊢
 split at h
 ·simp only[VR]at h ⊢;exact h
 ·simp only[VR]at h ⊢;exact h
theorem fF.free{H H':Nat→Option aP}{ν':Nat→Value}: ∀{τ:Ty} {x:τ.den} {vs:List Value},fF w M H ν (lF τ x) vs→fF w M H' ν' (lF τ x) vs
 | .pair a b,x,v::vs,h=>by
  simp only[lF,fF]at h ⊢
  exact⟨VR.aeb h.1,fF.free h.2⟩
 | .pair a b,x,[],h=>by simp[lF,fF]at h
 | .int _,_,[],_| .bool,_,[],_| .str,_,[],_| .slice _,_,[],_| .unit,_,[],_| .arr _ _,_,[],_=>by simp[lF,fF]
 | .int _,_,_::_,h| .bool,_,_::_,h| .str,_,_::_,h| .slice _,_,_::_,h| .unit,_,_::_,h| .arr _ _,_,_::_,h=>by simp[lF,fF]at h
theorem wC{H0 H1 Hq:Nat→Option aP}{M1:Nat→Prop}{uo uf:fl}{io:List (Nat×Ty)}{hs:List Nat}(h:ia c w M ν H0 H1 Hq M1 uo uf io hs){m:AM}{x:aY}{v:Value}(hv:VR w M1 H1 ν x v)
  {k:m.den→(Nat→Option aP)→List Nat→fl→fl→List (Nat×Ty)→Option α} (hk:kD m x H1 k=some r):
  ∃y H2 rd DZ D0 Ax M6 M2,k y H2 rd DZ D0 Ax=some r∧ia c w M ν H0 H2 M6 M2 (DZ++uo) (D0++uf) (io++Ax) (hs++ct m v)∧di w M1 w M2∧oe H1 ν H2 ν∧A1 w M2 m y v∧
   Ax.map (fun q=>ν q.1)=(if m.fG then [v]else [])∧Ax.map (·.2)=kG [m]:=by
 unfold kD at hk
 split at hk
 ·
  rename_i τ k
  obtain⟨y,rd,ups,hk,hy⟩:=yb h.mem hv hk
  rcases hy with⟨rfl,hV⟩|⟨id,e,l,rfl,aT,hV⟩
  ·exact⟨y,H1,rd,[],[],[],Hq,M1,hk,by simpa [ct]using h,.refl w M1,.refl H1 ν,hV,rfl,rfl⟩
  ·obtain⟨M2,hA,hK,CF⟩:=h.freeze aT
   exact⟨y,_,rd,[],_,[],Hq,M2,hk,by simpa [ct]using hA,hK,.Zh aT ⟨rfl,rfl⟩,hV M2 CF,rfl,rfl⟩
 ·
  rename_i e k
  split at hk
  ·obtain⟨ad,hv⟩:=VR.emp.1 hv
   subst hv
   have hb:ej (.slice ad 0 0)=none:=by cases ad<;>simp[ej]
   exact⟨[],H1,[],[],[],[],Hq,M1,hk,by simpa [ct,hb]using h,.refl w M1,.refl H1 ν,by simp only[A1,ER];exact .inl ⟨trivial,ad,rfl⟩,rfl,rfl⟩
  ·rename_i id
   split at hk
   ·rename_i e' l aT
    obtain⟨e1,hk⟩:=a7 hk
    cases e1
    simp only[VR]at hv
    obtain⟨_,rfl⟩:=hv
    refine⟨_,_,_,_,_,_,_,M1,hk,by simpa [ct]using h.hand aT,.refl w M1,.Zh aT (aP.ka _),?_,rfl,rfl⟩
    have:=h.mem.iO id _ aT
    exact this
   ·cases hk
  ·cases hk
 ·
  rename_i τ k
  split at hk
  ·rename_i id
   split at hk
   ·rename_i υ z aT
    obtain⟨e1,hk⟩:=a7 hk
    subst e1
    simp only[VR]at hv
    obtain⟨e,he,jJ⟩:=hv
    rw[aT]at he;cases he
    simp only[AR]at jJ
    obtain⟨_,b,hb,hv⟩:=jJ
    have NI:v=ν id:=by rw[hv,hb];rfl
    subst NI
    refine⟨_,_,_,_,_,_,_,M1,hk,by simpa [ct]using h.Zg aT,.refl w M1,.Zh aT (aP.ka _),?_,rfl,rfl⟩
    have:=h.mem.iO id _ aT
    exact this
   ·cases hk
  ·cases hk
 ·
  rename_i f τ k
  split at hk
  ·rename_i f' cs
   obtain⟨hf,Zi⟩:=bB hk
   clear hk
   have hf:=Nat.eq_of_beq_eq_true hf
   subst hf
   have hk:=Zi
   clear Zi
   simp only[VR]at hv
   obtain⟨us,rfl,Rg⟩:=hv
   obtain⟨y,rd,ups,hk,hy⟩:=yP h.mem Rg hk
   split at hk
   ·exact⟨y,H1,rd,[],[],[],Hq,M1,hk,by simpa [ct]using h,.refl w M1,.refl H1 ν,by simp only[A1,VR];exact⟨us,rfl,hy rfl⟩,rfl,rfl⟩
   ·cases hk
  ·cases hk
 ·cases hk
 ·
  rename_i τ k
  split at hk
  ·rename_i υ z
   obtain⟨e1,hk⟩:=a7 hk
   subst e1
   exact⟨_,H1,_,[],[],[],Hq,M1,hk,by simpa [ct]using h,.refl w M1,.refl H1 ν,by simp only[A1,VR]at hv ⊢;exact hv,rfl,rfl⟩
  ·cases hk
theorem wD{H0:Nat→Option aP}: ∀{ms:List AM} {lK:List aY} {vs:List Value} {H1 Hq:Nat→Option aP} {M1:Nat→Prop} {rd:List Nat} {uo uf:fl} {io:List (Nat×Ty)} {hs:List Nat} {K:HP ms→List Nat→fl→fl→List (Nat×Ty)→Option α},
  ia c w M ν H0 H1 Hq M1 uo uf io hs→fF w M1 H1 ν lK vs→oA ms lK H1 rd uo uf io K=some r→
  ∃x vq DZ D0 Ax H2 M6 M2,K x vq DZ D0 Ax=some r∧ia c w M ν H0 H2 M6 M2 DZ D0 Ax (hs++cG ms vs)∧di w M1 w M2∧fR w M2 ms x vs∧
   Ax.map (fun q=>ν q.1)=io.map (fun q=>ν q.1)++du ms vs∧Ax.map (·.2)=io.map (·.2)++kG ms
 |[],[],[],H1,Hq,M1,rd,uo,uf,io,hs,K,h,_,hk=>
  ⟨(),rd,uo,uf,io,H1,Hq,M1,hk,by simpa [cG]using h,.refl w M1,rfl,by simp[du],by simp[kG]⟩
 |[m],[x],[v],H1,Hq,M1,rd,uo,uf,io,hs,K,h,hv,hk=>by
  simp only[fF,and_true]at hv
  obtain⟨y,H2,Y5,uo1,uf1,io1,M6,M2,hk,hA,hK,hG,hy,Rq,M7⟩:=wC h hv (hk:kD m x H1 _=some r)
  refine⟨y,_,_,_,_,H2,M6,M2,hk,by simpa [cG]using hA,hK,⟨v,[],rfl,hy,rfl⟩,?_,?_⟩
  ·rw[List.map_append,Rq];cases rC:m.fG<;>simp[du,rC]
  ·rw[List.map_append,M7]
 |m::n::ms,x::xs,v::vs,H1,Hq,M1,rd,uo,uf,io,hs,K,h,hv,hk=>by
  simp only[fF]at hv
  obtain⟨y,H2,Y5,uo1,uf1,io1,M6,M2,hk,hA,hK,hG,hy,Rq,M7⟩:=wC h hv.1 (hk:kD m x H1 _=some r)
  obtain⟨ys,vq,DZ,D0,Ax,H3,Hq3,M3,hk,hA',hK',hys,hi3,hi4⟩:=wD (ms:=n::ms) hA (fF.bs hK hG hv.2) hk
  refine⟨(y,ys),_,_,_,_,H3,Hq3,M3,hk,by simpa [cG,List.append_assoc]using hA',hK.trans hK',⟨v,vs,rfl,?_,hys⟩,?_,?_⟩
  ·refine A1.qG hK' (fun b hb=>⟨rfl,hA'.hM b ?_⟩) hy
   exact List.mem_append_left _ (List.mem_append_right _ hb)
  ·rw[hi3,List.map_append,Rq,List.append_assoc]
   congr 1
   cases rC:m.fG<;>simp[du,rC]
  ·rw[hi4,List.map_append,M7,List.append_assoc]
   congr 1
   cases m<;>simp[kG]
 |[],_::_,_,_,_,_,_,_,_,_,_,_,_,_,hk=>by simp[oA]at hk
 |[_],[],_,_,_,_,_,_,_,_,_,_,_,_,hk=>by simp[oA]at hk
 |[_],_::_::_,_,_,_,_,_,_,_,_,_,_,_,_,hk=>by simp[oA]at hk
 |_::_::_,[],_,_,_,_,_,_,_,_,_,_,_,_,hk=>by simp[oA]at hk
 |_,_::_,[],_,_,_,_,_,_,_,_,_,_,hv,_=>by simp[fF]at hv
 |[],[],_::_,_,_,_,_,_,_,_,_,_,_,hv,_=>by simp[fF]at hv
 |[_],[_],_::_::_,_,_,_,_,_,_,_,_,_,_,hv,_=>by simp[fF]at hv
end VM
end
