/- A part of the proof of AwardDrawn of layer 25: a machine that reads a function of the program as an equation between values. -/
import Derived.Test.YtocmlaipoebfeaaGreatVm2
import Derived.Great.FillDense
set_option linter.all false
section
namespace VM
open Go
variable{P:Program}{E:Env}{o:Oper}{a:Act}{w:World}{M:Nat→Prop}{ν:Nat→Value}{σ:St}{c:Ctx}{α:Type}{r:α}{next:Act→World→Prop}{Q:Exit→Act→World→Prop}
theorem MF(off:Nat)(new:Array Value)(cs:Array Value)(h:off+new.size≤cs.size):
  (new.zipIdx.foldl (fun cs (x:Value×Nat)=>cs.setIfInBounds (off+x.2) x.1) cs)=(dd cs.toList off new.toList).toArray:=by
 have h1:new.zipIdx.foldl (fun cs (x:Value×Nat)=>cs.setIfInBounds (off+x.2) x.1) cs=(new.toList.zipIdx 0).foldl (fun cs (x:Value×Nat)=>cs.setIfInBounds (off+x.2) x.1) cs:=by
  rw[←Array.foldl_toList,Array.toList_zipIdx]
 rw[h1]
 obtain⟨hs,hk⟩:=Great.foldl_set off new.toList 0 cs
 apply Array.ext_getElem?
 intro k
 rw[hk k,←Array.getElem?_toList (xs:=cs)]
 have hl:new.toList.length=new.size:=Array.length_toList
 have hc:cs.toList.length=cs.size:=Array.length_toList
 unfold dd
 rw[List.getElem?_toArray]
 by_cases h2:k<off
 ·rw[if_neg (by omega),List.append_assoc,List.getElem?_append_left (by rw[List.length_take];omega),List.getElem?_take_of_lt h2]
 ·by_cases h3:k<off+new.size
  ·rw[if_pos (by omega),List.getElem?_append_left (by rw[List.length_append,List.length_take];omega),List.getElem?_append_right (by rw[List.length_take];omega),List.length_take]
   congr 1
   omega
  ·rw[if_neg (by omega),List.getElem?_append_right (by rw[List.length_append,List.length_take];omega),List.length_append,List.length_take,List.getElem?_drop]
   congr 1
   omega
theorem AF{place:Nat→Option (Nat×Nat)}{cs:Array Value}{i:Nat}{v:Value}{rest:List (Nat×Value)}{off s:Nat}(hp:place i=some (off,s))(hs:v.cells.size=s)(h:off+s≤cs.size):
  Instr.fill place cs ((i,v)::rest)=Instr.fill place (dd cs.toList off v.cells.toList).toArray rest:=by
 have h1: ¬(decide (v.cells.size≠s)||decide (off+v.cells.size>cs.size))=true:=by simp[hs];omega
 conv=>lhs;unfold Instr.fill
 rw[hp]
 simp only
 rw[if_neg h1]
 congr 1
 exact MF off v.cells cs (by omega)
theorem o1(a:Act)(ps:Array (Nat×Operand)):(ps.map fun(i,x)=>(i,a.eval x)).toList=ps.toList.map fun p=>(p.1,a.eval p.2):=by
 rw[Array.toList_map]
def PR(w:World)(M:Nat→Prop)(H:Nat→Option aQ)(ν:Nat→Value):List (Nat×aX)→List (Nat×Value)→Prop
 |[],[]=>True
 |p::ps,q::qs=>p.1=q.1∧VR w M H ν p.2 q.2∧PR w M H ν ps qs
 |_,_=>False
theorem PR.br{w':World}{M':Nat→Prop}{H H':Nat→Option aQ}{ν':Nat→Value}(k:da w M w' M')(g:oa H ν H' ν'): ∀{ps:List (Nat×aX)} {qs:List (Nat×Value)},PR w M H ν ps qs→PR w' M' H' ν' ps qs
 |[],[],_=>trivial
 |_::_,_::_,h=>⟨h.1,h.2.1.br k g,PR.br k g h.2.2⟩
 |[],_::_,h=>h.elim
 |_::_,[],h=>h.elim
theorem Core.pr(hc:Core c σ a.tmps w M ν): ∀ps:List (Nat×Operand),PR w M σ.H ν (ps.map fun p=>(p.1,σ.ρ p.2)) (ps.map fun p=>(p.1,a.eval p.2))
 |[]=>trivial
 |p::ps=>⟨rfl,hc.ev p.2,hc.pr ps⟩
theorem vP{e:Ty}{n:Nat}{H:Nat→Option aQ}: ∀(ps:List (Nat×aX)) (qs:List (Nat×Value)) (H1:Nat→Option aQ) (M:Nat→Prop) (l:List e.den) (cs:Array Value) (rd:List Nat) (ups:fg) (K:List e.den→List Nat→fg→Option α),
  Fz H H1→Mem c H1 w M ν→PR w M H1 ν ps qs→l.length=n→cs.size=n*e.size→mA w M e cs.toList l→H1=bS H ups→qk e H n ps l rd ups K=some r→
  ∃l' uX jB M' cs',K l' uX jB=some r∧Tr c H1 w M ν (bS H jB) w M' ν∧Fz H (bS H jB)∧l'.length=n∧cs'.size=n*e.size∧mA w M' e cs'.toList l'∧
   Instr.fill (fun i=>some (i*e.size,e.size)) cs qs=some cs':=by
 intro ps
 induction ps with
 |nil=>
  intro qs H1 M l cs rd ups K hz hm hp hl hs hr hH h
  cases qs with
  |cons _ _=>exact hp.elim
  |nil=>exact⟨l,rd,ups,M,cs,h,hH▸Tr.refl hm,hH▸hz,hl,hs,hr,rfl⟩
 |cons p ps ih=>
  intro qs H1 M l cs rd ups K hz hm hp hl hs hr hH h
  cases qs with
  |nil=>exact hp.elim
  |cons q qs=>
   obtain⟨h1,h2,h3⟩:=hp
   unfold qk at h
   obtain⟨hb,h⟩:=bA h
   have dE:p.1<n:=by simpa [Nat.blt_eq]using hb
   obtain⟨y,XD,Hi,M1,h,eH,hV,xw,_⟩:=jD hz hm h2 h
   have hlen:(q.2.cells).size=e.size:=by rw[←Array.length_toList];exact hV.cells.length
   have hmul:=cR (s:=e.size) dE
   have rM:=mA.set (hr.br eH.br) (by rw[hl,Array.length_toList,hs];exact Nat.le_refl _) (i:=p.1) (by omega) hV.cells
   obtain⟨l',uX,jB,M',cs',hK,XE,zN,C5,I7,dr,hf⟩:=ih qs (bS H1 Hi) M1 (l.set p.1 y) (dd cs.toList (p.1*e.size) q.2.cells.toList).toArray (XD++rd) (ups++Hi) K xw eH.mem (h3.br eH.br eH.goes)
    (by rw[List.length_set];exact hl) (by rw[List.size_toArray,dY (by rw[Array.length_toList,Array.length_toList];omega),Array.length_toList,hs]) rM (by rw[dU,hH]) h
   refine⟨l',uX,jB,M',cs',hK,eH.trans XE,zN,C5,I7,dr,?_⟩
   rw[AF (off:=p.1*e.size) (s:=e.size) (by rw[h1]) hlen (by omega)]
   exact hf
theorem BW{τ:Ty}{H:Nat→Option aQ}{place:Nat→Option (Nat×Nat)}(Qk: ∀(x:τ.den) n υ y o,wM τ x n υ y o→place n=some (o,υ.size)):
  ∀(ps:List (Nat×aX)) (qs:List (Nat×Value)) (H1:Nat→Option aQ) (M:Nat→Prop) (x:τ.den) (cs:Array Value) (rd:List Nat) (ups:fg) (K:τ.den→List Nat→fg→Option α),
  Fz H H1→Mem c H1 w M ν→PR w M H1 ν ps qs→Rd w M τ cs.toList x→H1=bS H ups→oX τ H ps x rd ups K=some r→
  ∃x' uX jB M' cs',K x' uX jB=some r∧Tr c H1 w M ν (bS H jB) w M' ν∧Fz H (bS H jB)∧Rd w M' τ cs'.toList x'∧Instr.fill place cs qs=some cs'∧
   ∀m υ,BG τ m=some υ→(ps.all fun p=> !(Nat.beq p.1 m))=true→(cs'.toList.drop (nq τ m)).take υ.size=(cs.toList.drop (nq τ m)).take υ.size:=by
 intro ps
 induction ps with
 |nil=>
  intro qs H1 M x cs rd ups K hz hm hp hr hH h
  cases qs with
  |cons _ _=>exact hp.elim
  |nil=>exact⟨x,rd,ups,M,cs,h,hH▸Tr.refl hm,hH▸hz,hr,rfl,fun _ _ _ _=>rfl⟩
 |cons p ps ih=>
  intro qs H1 M x cs rd ups K hz hm hp hr hH h
  cases qs with
  |nil=>exact hp.elim
  |cons q qs=>
   obtain⟨h1,h2,h3⟩:=hp
   unfold oX at h
   obtain⟨υ,y0,of,hf,h⟩:=oy h
   obtain⟨y,XD,Hi,M1,h,eH,hV,xw,_⟩:=jD hz hm h2 h
   obtain⟨υ',y',o',k',wN,gp,zZ⟩:=nJ h
   obtain⟨rfl,rfl⟩:=wN.eq
   obtain⟨rfl,rfl⟩:=hf.eq
   obtain⟨e1,DJ⟩:=a7 gp
   obtain⟨x',oF,_,gG⟩:=zZ _ _ DJ
   have hlen:(q.2.cells).size=(p9 τ p.1).size:=by rw[←Array.length_toList];exact hV.cells.length
   have hb:=hf.bound
   have DC:=hr.length
   rw[Array.length_toList]at DC
   obtain⟨x2,uX,jB,M',cs',hK,XE,zN,dr,My,Hj⟩:=ih qs (bS H1 Hi) M1 x' (dd cs.toList (nq τ p.1) q.2.cells.toList).toArray (XD++rd) (ups++Hi) K xw eH.mem (h3.br eH.br eH.goes)
    (gG w M1 _ _ (hr.br eH.br) hV.cells) (by rw[dU,hH]) oF
   refine⟨x2,uX,jB,M',cs',hK,eH.trans XE,zN,dr,?_,fun m υ gp iX=> ?_⟩
   ·rw[AF (off:=nq τ p.1) (s:=(p9 τ p.1).size) (by rw[←h1];exact Qk _ _ _ _ _ hf) hlen (by omega)]
    exact My
   ·rw[List.all_cons,Bool.and_eq_true]at iX
    rw[Hj m υ gp iX.2]
    obtain⟨y2,o2,hf2⟩:=oz gp x
    obtain⟨e3,e4⟩:=hf2.eq
    subst e3 e4
    have gH:p.1≠m:=fun e=>by have:=iX.1;rw[e,Nat.beq_refl]at this;cases this
    have hap:=hf.apart hf2 gH
    have sv:=hf2.bound
    show((dd cs.toList (nq τ p.1) q.2.cells.toList).drop _).take _=_
    rw[BN (by rw[Array.length_toList];omega) (by rw[Array.length_toList,Array.length_toList];omega)]
theorem dB.places: ∀(τ:Ty) (fs:Array Field) (n off:Nat),dB P τ (.inr (fs,n,off))→
  ∃ps,(fs.toList.drop n).mapM (fun f=>(P.info? f.type).map fun i=>(f.offset,i.size))=some ps∧ ∀(x:τ.den) m υ y o,wM τ x m υ y o→ps[m]? =some (off+o,υ.size)
 | .unit,fs,n,off,h=>by
  simp only[dB]at h
  refine⟨[],?_,fun x m υ y o hf=>by cases hf⟩
  rw[List.drop_of_length_le (by rw[Array.length_toList];omega)];rfl
 | .pair t b,fs,n,off,h=>by
  simp only[dB]at h
  obtain⟨f,hf,ho,ha,hb⟩:=h
  obtain⟨ps,GK,My⟩:=dB.places b fs (n+1) (off+t.size) hb
  obtain⟨i,hi,hs,_⟩:=(show gl P t f.type from ha).base
  have dE:n<fs.toList.length:=by rw[Array.length_toList];exact(Array.getElem?_eq_some_iff.1 hf).1
  have hfe:fs.toList[n]=f:=by rw[Array.getElem_toList];exact(Array.getElem?_eq_some_iff.1 hf).2
  refine⟨(off,t.size)::ps,?_,fun x m υ y o wN=> ?_⟩
  ·rw[List.drop_eq_getElem_cons dE,List.mapM_cons,GK,hfe,hi]
   simp[ho,hs]
  ·cases wN with
   |here=>simp
   |there _ h'=>simp[My _ _ _ _ _ h',Nat.add_assoc]
 | .int _,_,_,_,h| .bool,_,_,_,h| .str,_,_,_,h| .slice _,_,_,_,h| .arr _ _,_,_,_,h=>by simp[dB]at h
theorem gl.places{τ:Ty}{t:TypeId}(h:gl P τ t)(ha:τ.isAgg=true)(hn: ∀n e,τ≠ .arr n e):
  ∃fs ps,P.underlying t=some (.struct fs)∧fs.toList.mapM (fun f=>(P.info? f.type).map fun i=>(f.offset,i.size))=some ps∧ ∀(x:τ.den) m υ y o,wM τ x m υ y o→ps[m]? =some (o,υ.size):=by
 cases τ with
 |unit=>
  simp only[gl,dB]at h
  obtain⟨_,fs,hu,hs⟩:=h
  refine⟨fs,[],hu,?_,fun x m υ y o hf=>by cases hf⟩
  have:fs.toList=[]:=List.eq_nil_of_length_eq_zero (by rw[Array.length_toList];exact hs)
  rw[this];rfl
 |pair t' b=>
  simp only[gl,dB]at h
  obtain⟨_,fs,f,hu,hf,ho,ha',hb⟩:=h
  have hg:dB P (.pair t' b) (.inr (fs,0,0)):=by
   simp only[dB]
   exact⟨f,hf,ho,ha',by simpa using hb⟩
  obtain⟨ps,GK,My⟩:=dB.places _ fs 0 0 hg
  exact⟨fs,ps,hu,GK,fun x m υ y o wN=>by simpa using My x m υ y o wN⟩
 |arr n e=>exact absurd rfl (hn n e)
 |int _=>simp[Ty.isAgg]at ha
 |bool=>simp[Ty.isAgg]at ha
 |str=>simp[Ty.isAgg]at ha
 |slice _=>simp[Ty.isAgg]at ha
theorem tF{ρ:Operand→Value}{t:TypeId}{ps:Array (Nat×Operand)}(ho:o.op= .build t ps){v:Value}(h:(Instr.build t (ps.map fun(i,x)=>(i,ρ x))).run P w= .ok v w):(execOp ρ o).run P w= .ok (.value v) w:=by
 simp[execOp,ho,h]
theorem tG{ρ:Operand→Value}{t:TypeId}{n:Nat}{ps:Array (Nat×Operand)}(ho:o.op= .buildSlice t n ps){v:Value}{w':World}(h:(Instr.buildSlice t n (ps.map fun(i,x)=>(i,ρ x))).run P w= .ok v w'):(execOp ρ o).run P w= .ok (.value v) w':=by
 simp[execOp,ho,h]
theorem VR.I8{H:Nat→Option aQ}{τ:Ty}(ha:τ.isAgg=true){cs:Array Value}{x:τ.den}(h:Rd w M τ cs.toList x):VR w M H ν (.val τ x) (.agg cs):=by
 simp only[VR,V];rw[if_pos ha];exact⟨cs,rfl,h⟩
theorem BX(hE:EnvTy P E)(hc:Core c σ a.tmps w M ν){t:TypeId}{ps:Array (Nat×Operand)}(ho:o.op= .build t ps){K:fh α}{n:Nat}{e:Ty}(ht:E.ty t=some (.arr n e))
  (h:qk e σ.H n (partsOf σ.ρ ps) (List.replicate n e.zero) [] [] (fun l rd ups=>K (.val (.arr n e) l) rd ups)=some r) (hn:dL c σ a o w M ν K r next):o.wp P a w next Q:=by
 have hl:=hE.ty t _ ht
 obtain⟨e',hu,hle⟩:=hl.arr
 obtain⟨i,hi,hs,hz,_⟩:=hl.base
 obtain⟨ie,hie,hes,_⟩:=hle.base
 have hr0:=Rd.arr.1 (Rd.zero w M (.arr n e))
 obtain⟨l',uX,jB,M',cs',hK,eH,zN,C5,I7,dr,hf⟩:=vP (partsOf σ.ρ ps) (ps.toList.map fun(p:Nat×Operand)=>(p.1,a.eval p.2)) σ.H M (List.replicate n e.zero) (Ty.b7 (.arr n e)).toArray [] [] _ (.refl _) hc.mem (hc.pr ps.toList)
  (by rw[List.length_replicate]) (by rw[List.size_toArray];exact hr0.2.1) hr0.2.2 rfl h
 refine aO (tF ho (run_build w t _ cs' ?_)) (hn _ _ _ _ _ _ _ hK eH (VR.I8 rfl (Rd.arr.2 ⟨C5,by rw[Array.length_toList];exact I7,dr⟩)))
 unfold Program.built
 rw[hi,hu]
 simp only[hz,hie,hes,o1]
 exact hf
theorem wV(hE:EnvTy P E)(hc:Core c σ a.tmps w M ν){t:TypeId}{ps:Array (Nat×Operand)}(ho:o.op= .build t ps){K:fh α}{τ:Ty}(ht:E.ty t=some τ)(Wi: ∀n e,τ≠ .arr n e)
  (h:cond τ.isAgg (oX τ σ.H (partsOf σ.ρ ps) τ.zero [] [] (fun l rd ups=>K (P6 E (partsOf σ.ρ ps) τ l) rd ups)) none=some r) (hn:dL c σ a o w M ν K r next):o.wp P a w next Q:=by
 obtain⟨Dy,h⟩:=bA h
 have hl:=hE.ty t _ ht
 obtain⟨fs,pl,hu,GK,Qk⟩:=hl.places Dy Wi
 obtain⟨i,hi,hs,hz,_⟩:=hl.base
 obtain⟨l',uX,jB,M',cs',hK,eH,zN,dr,hf,Hj⟩:=BW (place:=(pl.toArray[·]?)) (fun x n υ y o hf=>by simpa using Qk x n υ y o hf) (partsOf σ.ρ ps) (ps.toList.map fun(p:Nat×Operand)=>(p.1,a.eval p.2)) σ.H M τ.zero τ.b7.toArray [] [] _ (.refl _) hc.mem (hc.pr ps.toList)
  (Rd.zero w M τ) rfl h
 have hvr:VR w M' (bS σ.H jB) ν (P6 E (partsOf σ.ρ ps) τ l') (.agg cs'):=by
  unfold P6
  split
  ·rename_i n e oC
   cases iX:(partsOf σ.ρ ps).all fun p=> !(Nat.beq p.1 n)
   ·exact VR.I8 Dy dr
   ·have hq:=I2 oC
    show VR w M' (bS σ.H jB) ν (.BH τ l' n) (.agg cs')
    have hv:=VR.I8 (H:=bS σ.H jB) (ν:=ν) Dy dr
    simp only[VR]at hv ⊢
    refine⟨hv,cs',none,rfl,?_⟩
    have hfq:BG τ n=some (.slice e):=by
     unfold eo at hq
     split at hq
     ·rename_i a ha
      rw[ha]
      have:=of_decide_eq_true hq
      rw[this]
     ·cases hq
    have h2:=Hj n _ hfq iX
    have h3:=AA hq
    simp only[bB,Nat.add_zero]at h3
    have h4:=congrArg (fun l=>l[0]?) h2
    simp only[List.getElem?_take,List.getElem?_drop,Nat.add_zero]at h4
    rw[if_pos (show 0<(Ty.slice e).size from Nat.one_pos),if_pos (show 0<(Ty.slice e).size from Nat.one_pos)]at h4
    rw[h4];exact h3
  ·exact VR.I8 Dy dr
 refine aO (tF ho (run_build w t _ cs' ?_)) (hn _ _ _ _ _ _ _ hK eH hvr)
 unfold Program.built
 rw[hi,hu]
 have hzc:(bE τ τ.b7).cells=τ.b7.toArray:=by apply Array.ext';rw[ew]
 simp only[hz,GK,o1,hzc]
 exact hf
theorem z2(hE:EnvTy P E)(hc:Core c σ a.tmps w M ν){t:TypeId}{n:Nat}{ps:Array (Nat×Operand)}(ho:o.op= .buildSlice t n ps){K:fh α}{e:Ty}(ht:E.ty t=some (.slice e)){id:Nat}
  (h:cond (Nat.ble (n*(e.size+1)) 16777216) (mu σ.H id (.own e []) (qk e σ.H n (partsOf σ.ρ ps) (List.replicate n e.zero) [] [] fun l rd ups=>K (.ref id) (id::rd) (ups++[(id,some (.own e l))]))) none=some r)
  (hn:dL c σ a o w M ν K r next):o.wp P a w next Q:=by
 obtain⟨hb,h⟩:=bA h
 obtain⟨aR,h⟩:=gR h
 have hb:=Nat.le_of_ble_eq_true hb
 rw[Nat.mul_add,Nat.mul_one]at hb
 obtain⟨e',hu,hle⟩:=(hE.ty t _ ht).slice
 obtain⟨ie,hie,hes,hz,_⟩:=hle.base
 obtain⟨l',uX,jB,M',cs',hK,eH,zN,C5,I7,dr,hf⟩:=vP (partsOf σ.ρ ps) (ps.toList.map fun(p:Nat×Operand)=>(p.1,a.eval p.2)) σ.H M (List.replicate n e.zero) (madeCells (bE e e.b7).cells (n*e.size)) [] [] _ (.refl _) hc.mem (hc.pr ps.toList)
  (by rw[List.length_replicate]) (size_madeCells _ _) (mA.made w M e (Nat.le_refl _)) rfl h
 have Xt:bS σ.H jB id=none:=zN.none aR
 have qq:=eH.trans (Tr.row eH.mem Xt e' (e:=e) (cs:=cs') (l:=l') (cap:=n) (by omega) (by simp[maxLen];omega) I7 dr)
 have cw:(Instr.buildSlice t n (ps.map fun(i,x)=>(i,a.eval x))).run P w= .ok (.slice (some ⟨w.heap.size,0,none⟩) n n) (w.alloc (.cells cs' e')):=by
  by_cases h0:n*e.size=0
  ·rw[h0]at hf
   have XF:madeCells (bE e e.b7).cells 0=(Array.range 0).map fun i:Nat=>(#[]:Array Value)[i%0]! :=by simp[madeCells]
   rw[XF]at hf
   rw[←o1]at hf
   simp[Instr.buildSlice,run_underlying hu,Go.sizeOf,typeInfo,hie,hes,h0,newRow]at hf ⊢
   simp[hf]
  ·refine run_buildSlice w t e' n _ cs' ie _ hu hie hz (by rw[hes];omega) (by rw[hes];exact h0) ?_
   rw[hes,o1]
   exact hf
 refine aO (tG ho cw) (hn _ _ _ _ _ (fun b=>M' b∨b=w.heap.size) (ch ν id (.slice (some ⟨w.heap.size,0,none⟩) l'.length n)) hK ?_ ?_)
 ·rw[dU];exact qq
 ·simp only[VR]
  exact⟨by rw[dU];show bn _ id _ id≠none;rw[ak];simp,by simp[ch,C5]⟩
end VM
end
section
namespace VM
open Go
variable{P:Program}{E:Env}{o:Oper}{a:Act}{w:World}{M:Nat→Prop}{ν:Nat→Value}{σ:St}{c:Ctx}{α:Type}{r:α}{next:Act→World→Prop}{Q:Exit→Act→World→Prop}
def PJ(o:Option Value)(d l:Int):Prop:=(o=none∧l=d)∨ ∃k,o=some (.int k l)
theorem mC(hc:Core c σ a.tmps w M ν){x:Option Operand}{d:Int}{k:Int→Option α}(h:ss (x.map σ.ρ) d k=some r): ∃l,k l=some r∧PJ (x.map a.eval) d l:=by
 cases x with
 |none=>exact⟨d,h,.inl ⟨rfl,rfl⟩⟩
 |some x=>
  obtain⟨i,n,hx,h⟩:=iW (h:qi (σ.ρ x) (fun _ x=>k x)=some r)
  have hv:=hc.ev x
  rw[hx]at hv
  exact⟨n,h,.inr ⟨i,by rw[←hv.int];rfl⟩⟩
theorem pV{s:Bool}{len cap:Nat}{lo hi mx:Option Value}{l h m:Int}(wW:PJ lo 0 l)(C8:PJ hi len h)(MG:PJ mx cap m)(hm:mx.isNone=true∨hi.isSome=true)
  (h0:0≤l) (h1:l≤h) (h2:h≤m) (h3:m≤cap):(Instr.sliceBounds s len cap lo hi mx).run P w= .ok (l.toNat,h.toNat,m.toNat) w:=by
 have hb: ∀(k:IntKind) (i:Int) (y:Nat) cd,0≤i→i≤y→(Instr.sliceBound (.int k i) y cd).run P w= .ok i.toNat w:=by
  intro k i y cd h1 h2
  simp[Instr.sliceBound,asIntOf,h1,h2]
 have gp:((m.toNat:Nat):Int)=m:=by omega
 have hh':((h.toNat:Nat):Int)=h:=by omega
 rcases MG with⟨rfl,rfl⟩|⟨km,rfl⟩
 ·rcases C8 with⟨rfl,rfl⟩|⟨kh,rfl⟩
  ·rcases wW with⟨rfl,rfl⟩|⟨kl,rfl⟩
   ·simp[Instr.sliceBounds]
   ·simp[Instr.sliceBounds,hb kl l len _ h0 h1]
  ·rcases wW with⟨rfl,rfl⟩|⟨kl,rfl⟩
   ·simp[Instr.sliceBounds,hb kh h cap _ (by omega) h2]
   ·simp[Instr.sliceBounds,hb kh h cap _ (by omega) h2,hb kl l h.toNat _ h0 (by omega)]
 ·rcases C8 with⟨rfl,rfl⟩|⟨kh,rfl⟩
  ·simp at hm
  ·rcases wW with⟨rfl,rfl⟩|⟨kl,rfl⟩
   ·simp[Instr.sliceBounds,hb km m cap _ (by omega) h3,hb kh h m.toNat _ (by omega) (by omega)]
   ·simp[Instr.sliceBounds,hb km m cap _ (by omega) h3,hb kh h m.toNat _ (by omega) (by omega),hb kl l h.toNat _ h0 (by omega)]
theorem z5{ρ:Operand→Value}{t:TypeId}{x:Operand}{lo hi mx:Option Operand}(ho:o.op= .slice t x lo hi mx){s:ByteArray}{l h:Int}(hu:P.underlying t=some .string)(hx:ρ x= .string s)
  (wW:PJ (lo.map ρ) 0 l) (C8:PJ (hi.map ρ) s.size h) (MG:mx.isNone=true) (h0:0≤l) (h1:l≤h) (h2:h≤s.size):(execOp ρ o).run P w= .ok (.value (.string (s.extract l.toNat h.toNat))) w:=by
 have hm:mx=none:=by simpa using MG
 subst hm
 have hb:=pV (P:=P) (w:=w) (s:=false) wW C8 (.inl ⟨rfl,rfl⟩) (.inl rfl) h0 h1 h2 (Int.le_refl _)
 simp[execOp,ho,hx,Instr.sliceAt,Instr.slice,run_underlying hu,hb]
theorem o3{ρ:Operand→Value}{t e:TypeId}{x:Operand}{lo hi mx:Option Operand}(ho:o.op= .slice t x lo hi mx){τ:Ty}{ad:Option Addr}{len cap:Nat}{l h m:Int}(hu:P.underlying t=some (.slice e))(hle:gl P τ e)(hx:ρ x= .slice ad len cap)
  (wW:PJ (lo.map ρ) 0 l) (C8:PJ (hi.map ρ) len h) (MG:PJ (mx.map ρ) cap m) (hm:(mx.map ρ).isNone=true∨(hi.map ρ).isSome=true) (h0:0≤l) (h1:l≤h) (h2:h≤m) (h3:m≤cap):
  (execOp ρ o).run P w= .ok (.value (.slice (if m.toNat=l.toNat then ad else ad.map (·.add (l.toNat*τ.size))) (h.toNat-l.toNat) (m.toNat-l.toNat))) w:=by
 have hb:=pV (P:=P) (w:=w) (s:=true) wW C8 MG hm h0 h1 h2 h3
 simp[execOp,ho,hx,Instr.sliceAt,Instr.slice,run_underlying hu,hb,bY hle]
theorem vQ{x:Option Operand}(h:g4 x=true)(a:Act): ∃k,x.map a.eval=some (.int k 0):=by
 unfold g4 at h
 split at h
 ·rename_i k n
  have:n=0:=by simpa using h
  subst this
  exact⟨k,rfl⟩
 ·cases h
theorem Rd.cut{e:Ty}{ad:Option Addr}{len cap:Nat}{x:List e.den}(h:Rd w M (.slice e) [.slice ad len cap] x){l hh m:Int}(h0:0≤l)(h1:l≤hh)(h2:hh≤m)(hl:hh≤x.length):
  Rd w M (.slice e) [.slice (if m.toNat=l.toNat then ad else ad.map (·.add (l.toNat*e.size))) (hh.toNat-l.toNat) (m.toNat-l.toNat)] (List.drop l.toNat (List.take hh.toNat x)):=by
 simp only[Rd,List.cons.injEq,and_true]at h ⊢
 obtain⟨a',iY,hv,hc,hr⟩:=h
 cases hv
 have hlen:List.length (List.drop l.toNat (List.take hh.toNat x))=hh.toNat-l.toNat:=by rw[List.length_drop,List.length_take];omega
 refine⟨_,_,by rw[hlen],by rw[hlen];omega,fun i hi=> ?_⟩
 rw[hlen]at hi
 obtain⟨b,off,ha,hb,hm,cs,lH,gG⟩:=hr (l.toNat+i) (by omega)
 rw[if_neg (by omega)]
 refine⟨b,off+l.toNat*e.size,by rw[ha];simp[Addr.add_lit],hb,hm,cs,?_,?_⟩
 ·rw[show off+l.toNat*e.size+i*e.size=off+(l.toNat+i)*e.size from by rw[Nat.add_mul];omega];exact lH
 ·simp only[List.get_eq_getElem,List.getElem_drop,List.getElem_take]at gG ⊢
  exact gG
theorem VR.emp{H:Nat→Option aQ}{v:Value}:VR w M H ν .emp v↔ ∃ad,v= .slice ad 0 0:=by simp[VR]
theorem MH(hE:EnvTy P E)(hc:Core c σ a.tmps w M ν){t:TypeId}{x:Operand}{lo hi mx:Option Operand}(ho:o.op= .slice t x lo hi mx){K:fh α}{τ:Ty}(ht:E.ty t=some τ)
  (h:mw τ (lo.isNone&&g4 hi&&g4 mx) (σ.ρ x) (lo.map σ.ρ) (hi.map σ.ρ) (mx.map σ.ρ) σ.H K=some r) (hn:dL c σ a o w M ν K r next):o.wp P a w next Q:=by
 have tC:=hE.ty t τ ht
 have hv:=hc.ev x
 have hz0: ∀(e:Ty) (e':TypeId) (ad:Option Addr) (len cap:Nat),P.underlying t=some (.slice e')→gl P e e'→a.eval x= .slice ad len cap→(lo.isNone&&g4 hi&&g4 mx)=true→
   ∃ad',(execOp a.eval o).run P w= .ok (.value (.slice ad' 0 0)) w:=by
  intro e e' ad len cap hu hle hx hz
  simp only[Bool.and_eq_true]at hz
  obtain⟨⟨h1,h2⟩,h3⟩:=hz
  have h1:lo=none:=by simpa using h1
  subst h1
  obtain⟨k2,h2⟩:=vQ h2 a
  obtain⟨k3,h3⟩:=vQ h3 a
  have:=o3 (P:=P) (w:=w) ho hu hle hx (l:=0) (h:=0) (m:=0) (.inl ⟨rfl,rfl⟩) (.inr ⟨k2,h2⟩) (.inr ⟨k3,h3⟩) (.inr (by rw[h2];rfl)) (by omega) (by omega) (by omega) (by omega)
  exact⟨_,this⟩
 unfold mw at h
 split at h
 ·rename_i s hx
  obtain⟨hm,h⟩:=bA h
  obtain⟨l,h,wW⟩:=mC hc h
  obtain⟨hh,h,C8⟩:=mC hc h
  obtain⟨hk,h⟩:=bA h
  rw[tq]at hk
  obtain⟨h0,h1,h2,h3⟩:=of_decide_eq_true hk
  rw[hx]at hv
  exact aO (z5 ho tC.str hv.str wW C8 (by simpa using hm) h0 h1 h2) (hn _ [] [] _ _ _ _ h (.refl hc.mem) (.mkStr _))
 ·rename_i e hx
  obtain⟨e',hu,hle⟩:=tC.slice
  rw[hx]at hv
  obtain⟨ad,hv⟩:=VR.emp.1 hv
  cases hz:(lo.isNone&&g4 hi&&g4 mx)
  ·rw[hz]at h
   replace h:cond (mx.map σ.ρ).isNone (ss (lo.map σ.ρ) 0 fun l=>ss (hi.map σ.ρ) 0 fun h=>cond (fu l h 0 0) (K .emp [] []) none) none=some r:=h
   obtain⟨hm,h⟩:=bA h
   obtain⟨l,h,wW⟩:=mC hc h
   obtain⟨hh,h,C8⟩:=mC hc h
   obtain⟨hk,hK⟩:=bA h
   rw[tq]at hk
   obtain⟨h0,h1,h2,h3⟩:=of_decide_eq_true hk
   have gp:mx=none:=by simpa using hm
   subst gp
   have:=o3 (P:=P) (w:=w) ho hu hle hv wW C8 (.inl ⟨rfl,rfl⟩) (.inl rfl) h0 h1 (m:=0) (by omega) (by omega)
   refine aO this (hn _ [] [] _ _ _ _ hK (.refl hc.mem) (VR.emp.2 ?_))
   rw[show hh.toNat-l.toNat=0 from by omega,show(0:Int).toNat-l.toNat=0 from by omega]
   exact⟨_,rfl⟩
  ·rw[hz]at h
   obtain⟨ad',cw⟩:=hz0 e e' ad 0 0 hu hle hv hz
   exact aO cw (hn _ [] [] _ _ _ _ h (.refl hc.mem) (VR.emp.2 ⟨_,rfl⟩))
 ·rename_i e gH
  obtain⟨e',hu,hle⟩:=tC.slice
  cases hz:(lo.isNone&&g4 hi&&g4 mx)
  ·rw[hz]at h
   obtain⟨y,rd,ups,M',h,eH,hV,_⟩:=jD (.refl _) hc.mem hv h
   replace h:cond ((mx.map σ.ρ).isNone||(hi.map σ.ρ).isSome) (ss (lo.map σ.ρ) 0 fun l=>ss (hi.map σ.ρ) (List.length y:Int) fun h=>ss (mx.map σ.ρ) (List.length y:Int) fun m=>
    cond (fu l h m (List.length y:Int)) (K (.val (.slice e) (List.drop l.toNat (List.take h.toNat y))) rd ups) none) none=some r:=h
   obtain⟨hm,h⟩:=bA h
   obtain⟨l,h,wW⟩:=mC hc h
   obtain⟨hh,h,C8⟩:=mC hc h
   obtain⟨m,h,MG⟩:=mC hc h
   obtain⟨hk,h⟩:=bA h
   rw[tq]at hk
   obtain⟨h0,h1,h2,h3⟩:=of_decide_eq_true hk
   have hr:=V.slice.1 hV
   have dr:=hr
   simp only[Rd,List.cons.injEq,and_true]at dr
   obtain⟨ad,cap,hx,acy,_⟩:=dr
   rw[hx]at hr
   have gp:(mx.map a.eval).isNone=true∨(hi.map a.eval).isSome=true:=by
    simp only[Bool.or_eq_true,Option.isNone_map,Option.isSome_map]at hm ⊢;exact hm
   have XG: ∃m',PJ (mx.map a.eval) cap m'∧hh≤m'∧m'≤cap:=by
    rcases MG with⟨h9,_⟩|⟨k,h9⟩
    ·exact⟨cap,.inl ⟨h9,rfl⟩,by omega,Int.le_refl _⟩
    ·exact⟨m,.inr ⟨k,h9⟩,h2,by omega⟩
   obtain⟨m',XG,h4,h5⟩:=XG
   have cw:=o3 (P:=P) (w:=w) ho hu hle hx wW C8 XG gp h0 h1 h4 h5
   refine aO cw (hn _ _ _ _ _ M' _ h eH ?_)
   simp only[VR]
   exact V.slice.2 (hr.cut h0 h1 h4 (by omega))
  ·rw[hz]at h
   obtain⟨y,rd,h,hS⟩:=vL hc.mem hv h
   obtain⟨ad,cap,hx,_⟩:=hS
   obtain⟨ad',cw⟩:=hz0 e e' ad _ cap hu hle hx hz
   exact aO cw (hn _ _ [] _ _ _ _ h (.refl hc.mem) (VR.emp.2 ⟨_,rfl⟩))
 ·cases h
end VM
end
section
namespace VM
open Go
variable{P:Program}{E:Env}{o:Oper}{a:Act}{w:World}{M:Nat→Prop}{ν:Nat→Value}{σ:St}{c:Ctx}{α:Type}{r:α}{next:Act→World→Prop}{Q:Exit→Act→World→Prop}
theorem nK{t ty e:TypeId}{i:TypeInfo}(ht:P.underlying t=some (.slice e))(hi:P.info? e=some i)(base:Option Addr)(n cap:Nat)(h:n≤cap)(a':Option Addr)(cp:Nat):
  (Builtin.append_ #[t,t] ty #[.slice base n cap,.slice a' 0 cp]).run P w= .ok (.slice base n cap) w:=by
 cases a'<;>cases base<;>simp[Builtin.append_,run_underlying ht,Go.sizeOf,typeInfo,hi,Builtin.lenOf,h,Builtin.firstCells,loadCells,loadCellsFrom,storeCells]
theorem DK{t ty e te:TypeId}{i:TypeInfo}(ht:P.underlying t=some (.slice e))(hi:P.info? e=some i){b n cap m cp:Nat}{a':Addr}{news:List Value}{cs:Array Value}
  (hg:w.heap[b]? =some (.cells cs te (0,0))) (hs:cs.size=cap*i.size) (hl:news.length=m*i.size) (hn: ∀j u,news[j]? =some u→w.cell? (a'.add j)=some u) (h1: ∀u∈news,u.oneCell'=true) (hr:n+m≤cap):
  (Builtin.append_ #[t,t] ty #[.slice (some ⟨b,0,none⟩) n cap,.slice (some a') m cp]).run P w= .ok (.slice (some ⟨b,0,none⟩) (n+m) cap) (w.setRow b (dd cs.toList (n*i.size) news).toArray):=by
 have hf:=run_firstCells_some (P:=P) w i.size m a' m cp news hl hn
 have hm:(n+m)*i.size≤cap*i.size:=Nat.mul_le_mul_right _ hr
 rw[Nat.add_mul]at hm
 have GH:=run_storeCells_at (P:=P) b (n*i.size) te news 0 cs w hg (by omega) h1
 simp only[Nat.add_zero]at GH
 simp[Builtin.append_,run_underlying ht,Go.sizeOf,typeInfo,hi,Builtin.lenOf,hr,hf,Addr.add_lit,GH,dd]
theorem eE{args:Array Operand}{t:TypeId}{x y:Operand}{v:Value}{w':World}(ho:o.op= .call {callee:= .builtin .append,args,argTypes:= #[t,t]})(ha:args.toList=[x,y])
  (h:(Builtin.append_ #[t,t] o.type #[a.eval x,a.eval y]).run P w= .ok v w'):(execOp a.eval o).run P w= .ok (.value v) w':=by
 obtain⟨cs,hr⟩:=mz (P:=P) (ρ:=a.eval) ho (w:=w)
 rw[hr]
 have:args.map a.eval= #[a.eval x,a.eval y]:=by apply Array.ext';simp[ha]
 rw[this]
 simp[builtin,h]
theorem yb{H:Nat→Option aQ}(hm:Mem c H w M ν){id:Nat}(aR:H id=none){t ty:TypeId}{e':TypeId}{e:Ty}(hu:P.underlying t=some (.slice e'))(hle:gl P e e')
  {xs ys:List e.den} {olds news:List Value} {base:Option Addr} {cap cp:Nat} {a':Addr} (MI:base=none→xs=[]∧cap=0)
  (wW:olds.length=xs.length*e.size) (hro:mA w M e olds xs) (ho: ∀b,base=some b→ ∀j u,olds[j]? =some u→w.cell? (b.add j)=some u)
  (PK:news.length=ys.length*e.size) (hrn:mA w M e news ys) (hn: ∀j u,news[j]? =some u→w.cell? (a'.add j)=some u)
  (hg:cap<xs.length+ys.length) (hs:xs.length+ys.length<tp):
  ∃v w' M' ν',(Builtin.append_ #[t,t] ty #[.slice base xs.length cap,.slice (some a') ys.length cp]).run P w= .ok v w'∧Tr c H w M ν (bn H id (some (.own e (xs++ys)))) w' M' ν'∧ν' id=v:=by
 obtain⟨i,hi,oT,hz,XH⟩:=hle.base
 have hzs:(bE e e.b7).cells.size=e.size:=by rw[←Array.length_toList,ew,jY]
 have Wj:xs.length+ys.length≤maxLen:=by simp only[tp,maxLen]at hs ⊢;omega
 have DL:(xs.length+ys.length)*i.bytes≤140737488355328:=by
  have:(xs.length+ys.length)*i.bytes≤68719476736*2048:=Nat.mul_le_mul (by simp only[tp]at hs;omega) XH
  omega
 have cw: ∃iY rest,(Builtin.append_ #[t,t] ty #[.slice base xs.length cap,.slice (some a') ys.length cp]).run P w= .ok (.slice (some ⟨w.heap.size,0,none⟩) (xs.length+ys.length) iY) (w.drew.alloc (.cells (olds++news++rest).toArray e'))∧
   xs.length+ys.length≤iY∧iY≤maxLen∧rest.length=(iY-(xs.length+ys.length))*e.size:=by
  refine⟨grownCap w (xs.length+ys.length) cap e',(Builtin.zeroCells (bE e e.b7).cells (grownCap w (xs.length+ys.length) cap e'-(xs.length+ys.length))).toList,?_,grownCap_ge _ _ _ _,grownCap_le_maxLen _ _ _ _ Wj,?_⟩
  ·cases base with
   |none=>
    obtain⟨rfl,rfl⟩:=MI rfl
    have ho0:olds=[]:=List.eq_nil_of_length_eq_zero (by rw[wW];simp)
    subst ho0
    have:=run_append_nil (P:=P) w t ty e' i _ hu hi hz a' ys.length cp news (by rw[PK,oT]) hn (by simpa using hg) (by simp only[tp]at hs;omega) (by simp at DL;omega)
    simp only[List.length_nil,Nat.zero_add,List.nil_append]
    rw[this]
    congr 2
    apply congrArg (fun z=>Obj.cells z e' (0,0))
    apply Array.ext';simp
   |some b=>
    have:=run_append_grow (P:=P) w t ty e' i _ hu hi hz b xs.length cap olds (by rw[wW,oT]) (ho b rfl) a' ys.length cp news (by rw[PK,oT]) hn hg (by simp only[tp]at hs;omega) (growslice_fits hg DL)
    rw[this]
    congr 2
    apply congrArg (fun z=>Obj.cells z e' (0,0))
    apply Array.ext';simp
  ·rw[Array.length_toList,size_zeroCells,hzs]
 obtain⟨iY,rest,cw,DJ,XI,acD⟩:=cw
 have hlen:(xs++ys).length=xs.length+ys.length:=List.length_append
 have hd:=Tr.drew hm
 have hon:(olds++news).length=(xs++ys).length*e.size:=by rw[List.length_append,wW,PK,hlen,Nat.add_mul]
 have Hk:=Tr.row hd.mem aR e' (e:=e) (cs:=(olds++news++rest).toArray) (l:=xs++ys) (cap:=iY) (by rw[hlen];exact DJ) XI
  (by rw[List.size_toArray,List.length_append,hon,acD,hlen,←Nat.add_mul];congr 1;omega)
  (mA.more ((hro.append wW hrn).br hd.br) (by rw[hon];exact Nat.le_refl _))
 refine⟨_,_,_,_,cw,hd.trans Hk,?_⟩
 rw[←hlen];simp[ch]
theorem Ko(hE:EnvTy P E)(hc:Core c σ a.tmps w M ν){args:Array Operand}{ts:Array TypeId}{t t':TypeId}{x y:Operand}(ho:o.op= .call {callee:= .builtin .append,args,argTypes:=ts})(ha:args.toList=[x,y])(hts:ts.toList=[t,t']){K:fh α}{e:Ty}
  (ht:E.ty t=some (.slice e)) {id:Nat} (h:cond (Nat.beq t t') (mu σ.H id (.own e []) (Dp id e (σ.ρ x) (σ.ρ y) σ.H K)) none=some r) (hn:dL c σ a o w M ν K r next):o.wp P a w next Q:=by
 obtain⟨htt,h1⟩:=bA h
 clear h
 have htt:=Nat.eq_of_beq_eq_true htt
 subst htt
 obtain⟨aR,h⟩:=gR h1
 clear h1
 have ah4:ts= #[t,t]:=by apply Array.ext';simpa using hts
 subst ah4
 obtain⟨e',hu,hle⟩:=(hE.ty t _ ht).slice
 obtain⟨i,hi,oT,hz,XH⟩:=hle.base
 have BV:=hc.ev x
 unfold Dp at h
 obtain⟨ys,rd,h,hS⟩:=vL hc.mem (hc.ev y) h
 have XJ:(ys=[]∧ ∃a' cp,a.eval y= .slice a' 0 cp)∨(ys≠[]∧ ∃a' cp news,a.eval y= .slice (some a') ys.length cp∧news.length=ys.length*e.size∧(∀j u,news[j]? =some u→w.cell? (a'.add j)=some u)∧mA w M e news ys∧ ∀u∈news,u.oneCell'=true):=by
  by_cases hy:ys=[]
  ·left
   obtain⟨a',cp,hv,_⟩:=hS
   exact⟨hy,a',cp,by rw[hv,hy];rfl⟩
  ·right
   obtain⟨b,off,cp,news,hv,hl,lH,gG,h1⟩:=hS.cells hy
   exact⟨hy,⟨b,off,none⟩,cp,news,hv,hl,fun j u hj=>by rw[Addr.add_lit];exact lH j u hj,gG,h1⟩
 split at h
 ·
  rename_i hx
  rw[hx]at BV
  obtain⟨ad,BV⟩:=VR.emp.1 BV
  obtain⟨PL,h⟩:=bA h
  rw[xN]at PL
  have PL:=of_decide_eq_true PL
  rcases XJ with⟨rfl,a',cp,wS⟩|⟨hy,a',cp,news,wS,hl,lH,gG,h1⟩
  ·refine aO (eE ho ha (by rw[BV,wS];exact nK hu hi ad 0 0 (Nat.le_refl _) a' cp)) (hn _ _ _ _ _ _ _ h (Tr.nothing hc.mem aR e ad) ?_)
   simp only[VR]
   exact⟨by show bn _ id _ id≠none;rw[ak];simp,by simp[ch]⟩
  ·have Hl:0<ys.length:=List.length_pos_iff.2 hy
   obtain⟨v,w',M',ν',cw,eH,hv⟩:=yb (P:=P) (ty:=o.type) hc.mem aR hu hle (xs:=[]) (ys:=ys) (olds:=[]) (news:=news) (base:=ad) (cap:=0) (cp:=cp) (a':=a') (fun _=>⟨rfl,rfl⟩) (by simp) (fun i hi=>absurd hi (by simp)) (fun _ _ j u hj=>by simp at hj)
    hl gG lH (by simpa using Hl) (by simpa using PL)
   refine aO (eE ho ha (by rw[BV,wS];exact cw)) (hn _ _ _ _ _ _ _ h eH ?_)
   simp only[VR]
   exact⟨by show bn _ id _ id≠none;rw[ak];simp,hv.symm⟩
 ·
  rename_i j hx
  rw[hx]at BV
  simp only[VR]at BV
  obtain⟨_,BV⟩:=BV
  split at h
  ·rename_i e1 l hj
   obtain⟨e2,h⟩:=a7 h
   cases e2
   obtain⟨PL,h⟩:=bA h
   rw[xN]at PL
   have PL:l.length+ys.length<tp:=of_decide_eq_true PL
   have gH:id≠j:=fun e=>by rw[e,hj]at aR;cases aR
   have kY:bn σ.H j (some .gone) id=none:=by rw[al _ _ gH];exact aR
   have GM:=Tr.gone hc.mem j
   have iK:=hc.mem.ix j _ hj
   simp only[ER]at iK
   rcases iK with⟨rfl,ad,XK⟩|⟨b,cs,te,cap,XK,hg,hM,Ma,hl,Ay,hs,hr⟩
   ·rw[XK]at BV
    rcases XJ with⟨rfl,a',cp,wS⟩|⟨hy,a',cp,news,wS,hl,lH,gG,h1⟩
    ·refine aO (eE ho ha (by rw[BV,wS];exact nK hu hi ad 0 0 (Nat.le_refl _) a' cp)) (hn _ _ _ _ _ _ _ h (GM.trans (Tr.nothing GM.mem kY e ad)) ?_)
     simp only[VR]
     exact⟨by show bn _ id _ id≠none;rw[ak];simp,by simp[ch]⟩
    ·have Hl:0<ys.length:=List.length_pos_iff.2 hy
     obtain⟨v,w',M',ν',cw,eH,hv⟩:=yb (P:=P) (ty:=o.type) GM.mem kY hu hle (xs:=[]) (ys:=ys) (olds:=[]) (news:=news) (base:=ad) (cap:=0) (cp:=cp) (a':=a') (fun _=>⟨rfl,rfl⟩) (by simp) (fun i hi=>absurd hi (by simp)) (fun _ _ j u hj=>by simp at hj)
      hl gG lH (by simpa using Hl) (by simpa using PL)
     refine aO (eE ho ha (by rw[BV,wS];exact cw)) (hn _ _ _ _ _ _ _ h (GM.trans eH) ?_)
     simp only[VR]
     exact⟨by show bn _ id _ id≠none;rw[ak];simp,hv.symm⟩
   ·rw[XK]at BV
    have DC:cs.toList.length=cap*e.size:=by rw[Array.length_toList,hs]
    have tH:l.length*e.size≤cap*e.size:=Nat.mul_le_mul_right _ hl
    rcases XJ with⟨rfl,a',cp,wS⟩|⟨hy,a',cp,news,wS,PK,lH,gG,h1⟩
    ·refine aO (eE ho ha (by rw[BV,wS];exact nK hu hi _ _ cap hl a' cp)) (hn _ _ _ _ _ M (ch ν id (ν j)) h ?_ ?_)
     ·refine Tr.rename hc.mem hj aR (.inr rfl) ?_
      rw[List.append_nil]
      exact hc.mem.ix j _ hj
     ·simp only[VR]
      exact⟨by show bn _ id _ id≠none;rw[ak];simp,by simp[ch,XK]⟩
    ·by_cases tI:l.length+ys.length≤cap
     ·have hmul:(l.length+ys.length)*e.size≤cap*e.size:=Nat.mul_le_mul_right _ tI
      rw[Nat.add_mul]at hmul
      have cw:=DK (P:=P) (ty:=o.type) hu hi (w:=w) (b:=b) (n:=l.length) (cap:=cap) (m:=ys.length) (cp:=cp) (a':=a') (news:=news) (cs:=cs) hg (by rw[hs,oT]) (by rw[PK,oT]) lH h1 tI
      rw[oT]at cw
      have Qc:dd cs.toList (l.length*e.size) news=(cs.toList.take (l.length*e.size)++news)++cs.toList.drop (l.length*e.size+news.length):=rfl
      have hold:mA w M e (cs.toList.take (l.length*e.size)) l:=mA.take hr (Nat.le_refl _)
      have htl:(cs.toList.take (l.length*e.size)).length=l.length*e.size:=by rw[List.length_take];omega
      have Wk:mA w M e (dd cs.toList (l.length*e.size) news) (l++ys):=by
       rw[Qc]
       refine mA.more (hold.append htl gG) ?_
       rw[List.length_append,List.length_append,htl,PK,Nat.add_mul];exact Nat.le_refl _
      have hsl:(dd cs.toList (l.length*e.size) news).length=cap*e.size:=by rw[dY (by omega)];exact DC
      have Ql:Tr c σ.H w M ν (bn σ.H j (some (.own e l))) (w.setRow b (dd cs.toList (l.length*e.size) news).toArray) M ν:=by
       refine Tr.write (e':= .own e l) hc.mem hj trivial trivial (.refl _) (by rw[XK];simp[eh];omega) hg fun GG hk u6=> ?_
       simp only[ER]
       refine .inr ⟨b,_,te,cap,XK,setRow_heap w b cs _ te _ hg,u6,Ma,hl,Ay,by rw[List.size_toArray];exact hsl,fun k zZ=> ?_⟩
       have:=(Wk k (by rw[List.length_append];omega)).br hk
       rw[List.getElem_append_left zZ]at this
       exact this
      rw[u2 hj]at Ql
      have qq:Tr c σ.H (w.setRow b (dd cs.toList (l.length*e.size) news).toArray) M ν (bn (bn σ.H j (some .gone)) id (some (.own e (l++ys)))) (w.setRow b (dd cs.toList (l.length*e.size) news).toArray) M (ch ν id (.slice (some ⟨b,0,none⟩) (l++ys).length cap)):=by
       refine Tr.rename Ql.mem hj aR (.inr (by rw[XK];simp[eh])) ?_
       simp only[ER]
       refine .inr ⟨b,_,te,cap,rfl,setRow_heap w b cs _ te _ hg,hM,Ma,by rw[List.length_append];exact tI,Ay,by rw[List.size_toArray];exact hsl,(Wk.br Ql.br)⟩
      refine aO (eE ho ha (by rw[BV,wS];exact cw)) (hn _ _ _ _ _ _ _ h (Ql.trans qq) ?_)
      simp only[VR]
      exact⟨by show bn _ id _ id≠none;rw[ak];simp,by simp[ch]⟩
     ·obtain⟨v,w',M',ν',cw,eH,hv⟩:=yb (P:=P) (ty:=o.type) GM.mem kY hu hle (xs:=l) (ys:=ys) (olds:=cs.toList.take (l.length*e.size)) (news:=news) (base:=some ⟨b,0,none⟩) (cap:=cap) (cp:=cp) (a':=a') (fun h=>by cases h)
       (by rw[List.length_take];omega) (mA.take hr (Nat.le_refl _)) (fun b' dv k u hk=>by
        cases dv
        rw[Addr.add_lit,cell_of hg]
        rw[List.getElem?_take]at hk
        split at hk
        ·rw[←Array.getElem?_toList];simpa using hk
        ·cases hk)
       PK gG lH (by omega) PL
      refine aO (eE ho ha (by rw[BV,wS];exact cw)) (hn _ _ _ _ _ _ _ h (GM.trans eH) ?_)
      simp only[VR]
      exact⟨by show bn _ id _ id≠none;rw[ak];simp,hv.symm⟩
  ·cases h
 ·cases h
end VM
end
section
namespace VM
open Go
variable{P:Program}{E:Env}{o:Oper}{a:Act}{w:World}{M:Nat→Prop}{ν:Nat→Value}{σ:St}{c:Ctx}{α:Type}{r:α}{next:Act→World→Prop}{Q:Exit→Act→World→Prop}
def qg:{m:AM}→{ms:List AM}→HP (m::ms)→m.den
 |_,[],x=>x
 |_,_::_,x=>x.1
def uV:{m:AM}→{ms:List AM}→HP (m::ms)→HP ms
 |_,[],_=>()
 |_,_::_,x=>x.2
def AM.fx:AM→Bool
 | .io _=>true
 |_=>false
def AM.Qm:AM→Bool
 | .fn _ _| .fc _=>true
 |_=>false
def A1(w:World)(M:Nat→Prop):(m:AM)→m.den→Value→Prop
 | .v τ,x,v=>V w M τ v x
 | .own e,x,v=>ER w M v (.own e x)
 | .io τ,x,v=>ER w M v (.obj τ x)
 | .fn f τ,x,v=>VR w M (fun _=>none) (fun _=>undef) (.Dj f (lA τ x)) v
 | .ptr τ,x,v=>ER w M v (.obj τ x)
 | .fc τ,x,v=>VR w M (fun _=>none) (fun _=>undef) (.mq τ x) v
def fG(w:World)(M:Nat→Prop):(ms:List AM)→HP ms→List Value→Prop
 |[],_,vs=>vs=[]
 |_::ms,x,vs=> ∃v C9,vs=v::C9∧A1 w M _ (qg x) v∧fG w M ms (uV x) C9
def cq:AM→Value→List Nat
 | .own _,v| .io _,v| .ptr _,v=>(eh v).toList
 |_,_=>[]
def cB:List AM→List Value→List Nat
 |m::ms,v::vs=>cq m v++cB ms vs
 |_,_=>[]
def dq:List AM→List Value→List Value
 |m::ms,v::vs=>if m.fx then v::dq ms vs else dq ms vs
 |_,_=>[]
def kj:List AM→List Ty
 | .io τ::ms=>τ::kj ms
 |_::ms=>kj ms
 |[]=>[]
def RR(w:World)(M:Nat→Prop):(ms:List AM)→HP ms→List Value→List Value→Prop
 |[],_,vs,ps=>vs=[]∧ps=[]
 |m::ms,x,vs,ps=>(∃p z6,m.fx=true∧ps=p::z6∧A1 w M m (qg x) p∧RR w M ms (uV x) vs z6)∨
  (∃v C9,m.fx=false∧m.Qm=false∧vs=v::C9∧A1 w M m (qg x) v∧RR w M ms (uV x) C9 ps)
def a8:List AM→List Value→List Value→List Nat
 |[],_,_=>[]
 |m::ms,vs,ps=>if m.fx then cq m (ps.headD undef)++a8 ms vs ps.tail else cq m (vs.headD undef)++a8 ms vs.tail ps
def Ty.flat:Ty→Bool
 | .slice _=>false
 | .pair a b=>a.flat&&b.flat
 | .arr _ e=>e.flat
 |_=>true
def AM.flat:AM→Bool
 | .v τ| .io τ| .own τ| .ptr τ=>τ.flat
 | .fn _ _| .fc _=>false
def qx(vs:List Value):Value:=if h:vs.length=1 then vs[0]else .tuple vs.toArray
structure Left(w:World)(M0:Nat→Prop)(hs:List Nat)(w':World)(M':Nat→Prop):Prop where
 sub: ∀b,M0 b→M' b
 xQ: ∀b,M' b→b<w'.heap.size
 less: ∀b,b<w.heap.size→M' b→M0 b∨b∈hs
 frame: ∀b,b<w.heap.size→b∉hs→w'.heap[b]? =w.heap[b]?
 size:w.heap.size≤w'.heap.size
 os:w'.os=w.os
 tape:w'.tape=w.tape
 output:w'.output=w.output
def DM(P:Program)(f:FuncId)(args:Array Value)(w:World)(R:Value→World→Prop):Prop:=
 ∀(o:Oper) (a:Act) (next:Act→World→Prop) (Q:Exit→Act→World→Prop),(∀v w',R v w'→next (a.put o.dst v) w')→o.upon P a next Q ((callFunc f args).run P w)
theorem DM.mono{f:FuncId}{args:Array Value}{R R':Value→World→Prop}(h:DM P f args w R)(hr: ∀v w',R v w'→R' v w'):DM P f args w R':=
 fun o a next Q hn=>h o a next Q fun v w' hv=>hn v w' (hr v w' hv)
theorem ob{f:FuncId}{fn:Func}{args:Array Value}{R:Value→World→Prop}(hf:P.funcs[f]? =some fn)(hn:(fn.name== "runtime.NumGoroutine")=false)(hb:fn.body.isNone=false)
  (h:Calls P f args w fun e w'=> ∃v,e= .returned v∧R v w'):DM P f args w R:=by
 intro o a next Q rY
 have hn': ¬fn.name= "runtime.NumGoroutine" :=by simpa using hn
 have dv: ¬fn.body=none:=fun e=>by rw[e]at hb;cases hb
 have:(callFunc f args).run P w= .ok (.enter f args) w:=by simp[callFunc,hf,hn',dv]
 rw[this,Oper.upon_enter]
 refine Calls.mono h ?_
 rintro e w' ⟨v,rfl,hR⟩
 exact rY v w' hR
theorem z7{f:FuncId}{args:Array Value}{R:Value→World→Prop}{v:Value}{w':World}(h:(callFunc f args).run P w= .ok (.value v) w')(hR:R v w'):DM P f args w R:=by
 intro o a next Q rY
 rw[h,Oper.upon_value]
 exact rY v w' hR
structure eI(P:Program)(f:FuncId)(S:gP):Prop where
 quiet:S.quiet=true→S.res.all AM.flat=true
 ios:kj S.args=kj S.res
 call: ∀(M0:Nat→Prop) (w:World) (vs:List Value) (x:HP S.args) (y:HP S.res),(∀b,M0 b→b<w.heap.size)→
  fG w (fun b=>M0 b∨b∈cB S.args vs) S.args x vs→(cB S.args vs).Nodup→(∀b∈cB S.args vs,¬M0 b)→S.run x=some y→
  DM P f vs.toArray w fun v w'=> ∃us M',v=qx us∧RR w' M' S.res y us (dq S.args vs)∧Left w M0 (cB S.args vs) w' M'∧
   (a8 S.res us (dq S.args vs)).Nodup∧ ∀b∈a8 S.res us (dq S.args vs),¬M0 b
theorem Rd.flat{w:World}{M M':Nat→Prop}: ∀{τ:Ty} {cs:List Value} {x:τ.den},τ.flat=true→Rd w M τ cs x→Rd w M' τ cs x
 | .int _,_,_,_,h| .bool,_,_,_,h| .str,_,_,_,h| .unit,_,_,_,h=>h
 | .slice _,_,_,hf,_=>by simp[Ty.flat]at hf
 | .pair a b,_,_,hf,h=>by
  simp only[Ty.flat,Bool.and_eq_true]at hf
  simp only[Rd]at h ⊢
  obtain⟨c1,c2,rfl,h1,h2⟩:=h
  exact⟨c1,c2,rfl,h1.flat hf.1,h2.flat hf.2⟩
 | .arr n e,_,x,hf,h=>by
  simp only[Ty.flat]at hf
  simp only[Rd]at h ⊢
  obtain⟨hn,Ka,hc,rfl,hr⟩:=h
  exact⟨hn,Ka,hc,rfl,fun i hi kg=>(hr i hi kg).flat hf⟩
theorem A1.flat{w:World}{M M':Nat→Prop}(hM: ∀b,M b→M' b){m:AM}{x:m.den}{v:Value}(hf:m.flat=true)(h:A1 w M m x v):A1 w M' m x v:=by
 cases m with
 |v τ=>
  simp only[A1,V,AM.flat]at h hf ⊢
  split
  ·rename_i ha;rw[if_pos ha]at h;obtain⟨cs,h1,h⟩:=h;exact⟨cs,h1,h.flat hf⟩
  ·rename_i ha;rw[if_neg ha]at h;exact h.flat hf
 |own e=>
  simp only[A1,ER,AM.flat]at h hf ⊢
  rcases h with h|⟨b,cs,t,cap,h1,h2,h3,h4,h5,h6,h7,h8⟩
  ·exact .inl h
  ·exact .inr ⟨b,cs,t,cap,h1,h2,hM b h3,h4,h5,h6,h7,fun i hi=>(h8 i hi).flat hf⟩
 |io τ=>
  simp only[A1,ER,AM.flat]at h hf ⊢
  obtain⟨b,cs,t,h1,h2,h3,h4⟩:=h
  exact⟨b,cs,t,h1,h2,hM b h3,h4.flat hf⟩
 |fn f τ=>simp[AM.flat]at hf
 |fc τ=>simp[AM.flat]at hf
 |ptr τ=>
  simp only[A1,ER,AM.flat]at h hf ⊢
  obtain⟨b,cs,t,h1,h2,h3,h4⟩:=h
  exact⟨b,cs,t,h1,h2,hM b h3,h4.flat hf⟩
theorem RR.flat{w:World}{M M':Nat→Prop}(hM: ∀b,M b→M' b): ∀{ms:List AM} {x:HP ms} {vs ps:List Value},ms.all AM.flat=true→RR w M ms x vs ps→RR w M' ms x vs ps
 |[],_,_,_,_,h=>h
 |m::ms,x,vs,ps,hf,h=>by
  simp only[List.all_cons,Bool.and_eq_true]at hf
  simp only[RR]at h ⊢
  rcases h with⟨p,z6,h1,h2,h3,h4⟩|⟨v,C9,h1,h2,h3,h4,h5⟩
  ·exact .inl ⟨p,z6,h1,h2,h3.flat hM hf.1,RR.flat hM hf.2 h4⟩
  ·exact .inr ⟨v,C9,h1,h2,h3,h4.flat hM hf.1,RR.flat hM hf.2 h5⟩
theorem A1.qy{w w':World}{M M':Nat→Prop}(k:da w M w' M'){m:AM}{x:m.den}{v:Value}(hm: ∀b∈cq m v,w'.heap[b]? =w.heap[b]? ∧M' b)(h:A1 w M m x v):A1 w' M' m x v:=by
 cases m with
 |v τ=>exact V.br k h
 |own e=>
  simp only[A1]at h ⊢
  exact ER.br k (fun _ b hb=>hm b (by simp[cq,hb])) h
 |io τ=>
  simp only[A1]at h ⊢
  exact ER.br k (fun _ b hb=>hm b (by simp[cq,hb])) h
 |fn f τ=>exact VR.br k (.refl _ _) h
 |fc τ=>exact VR.br k (.refl _ _) h
 |ptr τ=>
  simp only[A1]at h ⊢
  exact ER.br k (fun _ b hb=>hm b (by simp[cq,hb])) h
theorem fG.qy{w w':World}{M M':Nat→Prop}(k:da w M w' M'): ∀{ms:List AM} {x:HP ms} {vs:List Value},(∀b∈cB ms vs,w'.heap[b]? =w.heap[b]? ∧M' b)→fG w M ms x vs→fG w' M' ms x vs
 |[],_,_,_,h=>h
 |m::ms,x,vs,hm,h=>by
  simp only[fG]at h ⊢
  obtain⟨v,C9,rfl,h1,h2⟩:=h
  exact⟨v,C9,rfl,h1.qy k (fun b hb=>hm b (by simp[cB,hb])),fG.qy k (fun b hb=>hm b (by simp[cB,hb])) h2⟩
theorem RR.qy{w w':World}{M M':Nat→Prop}(k:da w M w' M'): ∀{ms:List AM} {x:HP ms} {us ps:List Value},(∀b∈a8 ms us ps,w'.heap[b]? =w.heap[b]? ∧M' b)→RR w M ms x us ps→RR w' M' ms x us ps
 |[],_,_,_,_,h=>h
 |m::ms,x,us,ps,hm,h=>by
  simp only[RR]at h ⊢
  rcases h with⟨p,z6,h1,rfl,h2,h3⟩|⟨v,BY,h1,h2,rfl,h3,h4⟩
  ·simp only[a8,h1,if_true,List.headD_cons,List.tail_cons,List.mem_append]at hm
   exact .inl ⟨p,z6,h1,rfl,h2.qy k (fun b hb=>hm b (.inl hb)),RR.qy k (fun b hb=>hm b (.inr hb)) h3⟩
  ·simp only[a8,h1,Bool.false_eq_true,if_false,List.headD_cons,List.tail_cons,List.mem_append]at hm
   exact .inr ⟨v,BY,h1,h2,rfl,h3.qy k (fun b hb=>hm b (.inl hb)),RR.qy k (fun b hb=>hm b (.inr hb)) h4⟩
theorem xx{H:Nat→Option aQ}(hm:Mem c H w M ν){a:aX}{v:Value}(hv:VR w M H ν a v){τ:Ty}{k:τ.den→List Nat→fg→Option α}{r:α}(h:hQ true a H τ k=some r):
  ∃y rd ups,k y rd ups=some r∧((ups=[]∧V w M τ v y)∨ ∃id e l,ups=[(id,some (.jW e l))]∧H id=some (.own e l)∧
   ∀M',(∀b,M' b↔(M b∧eh (ν id)≠some b))→V w M' τ v y):=by
 unfold hQ at h
 split at h
 ·obtain⟨e,h⟩:=a7 h
  subst e
  simp only[VR]at hv
  exact⟨_,[],[],h,.inl ⟨rfl,hv⟩⟩
 ·obtain⟨e,h⟩:=a7 h
  subst e
  simp only[VR]at hv
  exact⟨_,[],[],h,.inl ⟨rfl,hv.1⟩⟩
 ·split at h
  ·rename_i e k' _
   simp only[VR]at hv
   obtain⟨a,rfl⟩:=hv
   refine⟨[],[],[],h,.inl ⟨rfl,V.slice.2 ?_⟩⟩
   simp only[Rd]
   exact⟨a,0,rfl,Nat.le_refl _,fun i hi=>absurd hi (by simp)⟩
  ·cases h
 ·rename_i id
  simp only[VR]at hv
  obtain⟨_,rfl⟩:=hv
  split at h
  ·rename_i e l aR
   obtain⟨e',h⟩:=a7 h
   subst e'
   refine⟨_,_,_,h,.inr ⟨id,e,l,rfl,aR,fun M' hM'=> ?_⟩⟩
   obtain⟨M2,_,hV,BR⟩:=Tr.freeze hm aR
   have:M'=M2:=by funext b;exact propext ((hM' b).trans (BR b).symm)
   rw[this];exact hV
  ·rename_i e l aR
   obtain⟨e',h⟩:=a7 h
   subst e'
   have:=hm.ix id _ aR
   simp only[ER]at this
   exact⟨_,_,_,h,.inl ⟨rfl,V.slice.2 this.1⟩⟩
  ·cases h
 ·cases h
theorem MJ{H:Nat→Option aQ}(hm:Mem c H w M ν): ∀{a:Ty} {x:aX} {v:Value} {k:a.den→List Nat→fg→Option α} {r:α},VR w M H ν x v→vG x H a k=some r→
  ∃y rd ups,k y rd ups=some r∧(ups=[]→VR w M (fun _=>none) (fun _=>undef) (vH a y) v):=by
 intro a x v k r hv h
 unfold vG at h
 split at h
 ·rename_i a k
  split at h
  ·rename_i υ z
   obtain⟨e1,h⟩:=a7 h
   subst e1
   refine⟨_,_,_,h,fun _=> ?_⟩
   simp only[vH,VR]at hv ⊢
   exact hv
  ·cases h
 ·rename_i k0 qf
  obtain⟨y,rd,ups,h,hy⟩:=xx hm hv h
  refine⟨y,rd,ups,h,fun hu=> ?_⟩
  rcases hy with⟨_,hy⟩|⟨_,_,_,h3,_⟩
  ·have:vH _ y= .val _ y:=by
    unfold vH
    split
    ·exact(qf _ _ rfl HEq.rfl).elim
    ·rfl
   rw[this]
   simp only[VR];exact hy
  ·rw[hu]at h3;cases h3
theorem yc{H:Nat→Option aQ}(hm:Mem c H w M ν): ∀{τ:Ty} {lF:List aX} {vs:List Value} {k:τ.den→List Nat→fg→Option α} {r:α},fv w M H ν lF vs→mv H τ lF k=some r→
  ∃x rd ups,k x rd ups=some r∧(ups=[]→fv w M (fun _=>none) (fun _=>undef) (lA τ x) vs)
 | .unit,[],[],k,r,_,h=>⟨(),[],[],h,fun _=>by simp[lA,fv]⟩
 | .pair a b,x::xs,v::vs,k,r,hv,h=>by
  simp only[fv]at hv
  unfold mv at h
  obtain⟨y,rd,ups,h,hy⟩:=MJ hm hv.1 h
  obtain⟨ys,uX,jB,h,hys⟩:=yc hm hv.2 h
  refine⟨(y,ys),_,_,h,fun hu=> ?_⟩
  have h1:ups=[]:=(List.append_eq_nil_iff.1 hu).1
  have h2:jB=[]:=(List.append_eq_nil_iff.1 hu).2
  simp only[lA,fv]
  exact⟨hy h1,hys h2⟩
 | .unit,[],_::_,_,_,hv,_=>by simp[fv]at hv
 |_,_::_,[],_,_,hv,_=>by simp[fv]at hv
 | .unit,_::_,_,_,_,_,h=>by simp[mv]at h
 | .pair _ _,[],_,_,_,_,h=>by simp[mv]at h
 | .int _,_,_,_,_,_,h| .bool,_,_,_,_,_,h| .str,_,_,_,_,_,h| .slice _,_,_,_,_,_,h| .arr _ _,_,_,_,_,_,h=>by simp[mv]at h
end VM
end
section
namespace VM
open Go
variable{P:Program}{E:Env}{o:Oper}{a:Act}{w:World}{M:Nat→Prop}{ν:Nat→Value}{σ:St}{c:Ctx}{α:Type}{r:α}{next:Act→World→Prop}{Q:Exit→Act→World→Prop}
def keys{β:Type}(l:List (Nat×β)):List Nat:=l.map (·.1)
theorem iZ{i:Nat}: ∀{ups:fg} {H:Nat→Option aQ},i∉keys ups→bS H ups i=H i
 |[],_,_=>rfl
 |u::r,H,h=>by
  simp only[keys,List.map_cons,List.mem_cons,not_or]at h
  show bS (bn H u.1 u.2) r i=_
  rw[iZ h.2,al _ _ h.1]
theorem tJ(u:Nat×Option aQ)(b:fg)(hb:u.1∉keys b): ∀(a:fg) (H:Nat→Option aQ),bS H (a++u::b)=bn (bS H (a++b)) u.1 u.2
 |[],H=>by
  show bS (bn H u.1 u.2) b=bn (bS H b) u.1 u.2
  induction b generalizing H with
  |nil=>rfl
  |cons v b ih=>
   simp only[keys,List.map_cons,List.mem_cons,not_or]at hb
   show bS (bn (bn H u.1 u.2) v.1 v.2) b=bn (bS (bn H v.1 v.2) b) u.1 u.2
   rw[←ih hb.2]
   congr 1
   funext i
   by_cases h1:i=v.1
   ·subst h1;rw[ak,al _ _ (Ne.symm hb.1),ak]
   ·by_cases h2:i=u.1
    ·subst h2;rw[al _ _ h1,ak,ak]
    ·rw[al _ _ h1,al _ _ h2,al _ _ h2,al _ _ h1]
 |v::a,H=>tJ u b hb a (bn H v.1 v.2)
structure gS(c:Ctx)(w:World)(M:Nat→Prop)(ν:Nat→Value)(H0 H1 Hq:Nat→Option aQ)(M1:Nat→Prop)(uo uf:fg)(io:List (Nat×Ty))(hs:List Nat):Prop where
 mem:Mem c H1 w M1 ν
 Kp:Mem c Hq w M ν
 br:da w M w M1
 ext: ∀i,i∉keys io→bS H0 (uo++uf) i=H1 i
 Qn: ∀i,i∉keys io→bS H0 uo i=Hq i
 PM: ∀q∈io,H1 q.1=some .gone∧Hq q.1=some .gone∧ ∃x,H0 q.1=some (.obj q.2 x)
 ion:(keys io).Nodup
 ks: ∀i∈keys (uo++uf),∀e l,H1 i≠some (.own e l)
 ksn: ∀i∈keys (uo++uf),i∉keys io∧ ∃e l,H0 i=some (.own e l)
 fz:Fz Hq H1
 uov: ∀u∈uo,u.2=some .gone
 ufv: ∀u∈uf,∃e l,u.2=some (.jW e l)∧H0 u.1=some (.own e l)
 nd:hs.Nodup
 hM: ∀b∈hs,M1 b
 Hm: ∀b∈hs,c.B≤b∨c.may b
 none: ∀b∈hs,∀i e,Hq i=some e→e.mut→eh (ν i)≠some b
 iob: ∀b∈hs,c.M0 b→ ∃q∈io,eh (ν q.1)=some b
 same: ∀i,i∉keys (uo++uf)→i∉keys io→H1 i=H0 i
theorem gS.start{H:Nat→Option aQ}(hm:Mem c H w M ν):gS c w M ν H H H M [] [] [] []:=
 ⟨hm,hm,.refl w M,fun _ _=>rfl,fun _ _=>rfl,fun q hq=>by simp at hq,by simp[keys],fun i hi=>by simp[keys]at hi,fun i hi=>by simp[keys]at hi,.refl H,fun u hu=>by simp at hu,fun u hu=>by simp at hu,by simp,fun b hb=>by simp at hb,fun b hb=>by simp at hb,fun b hb=>by simp at hb,fun b hb=>by simp at hb,fun _ _ _=>rfl⟩
theorem Fz.XL{H H1:Nat→Option aQ}(h:Fz H H1){i:Nat}{e:Ty}{l:List e.den}(hi:H1 i=some (.own e l)):H i=some (.own e l):=by
 rcases h i with h'|⟨e',l',_,h'⟩
 ·rw[←h',hi]
 ·rw[hi]at h';cases h'
theorem Fz.acI{H H1:Nat→Option aQ}(h:Fz H H1){i:Nat}{e:Ty}{l:e.den}(hi:H1 i=some (.obj e l)):H i=some (.obj e l):=by
 rcases h i with h'|⟨e',l',_,h'⟩
 ·rw[←h',hi]
 ·rw[hi]at h';cases h'
theorem Fz.mut{H H1:Nat→Option aQ}(h:Fz H H1){i:Nat}{e:aQ}(hi:H1 i=some e)(hm:e.mut):H i=some e:=by
 cases e with
 |obj=>exact h.acI hi
 |dN=>
  rcases h i with h'|⟨e',l',_,h'⟩
  ·rw[←h',hi]
  ·rw[hi]at h';cases h'
 |own=>exact h.XL hi
 |jW=>simp[aQ.mut]at hm
 |gone=>simp[aQ.mut]at hm
theorem gS.freeze{H0 H1 Hq:Nat→Option aQ}{M1:Nat→Prop}{uo uf:fg}{io:List (Nat×Ty)}{hs:List Nat}(h:gS c w M ν H0 H1 Hq M1 uo uf io hs){id:Nat}{e:Ty}{l:List e.den}(aR:H1 id=some (.own e l)):
  ∃M2,gS c w M ν H0 (bn H1 id (some (.jW e l))) Hq M2 uo ((id,some (.jW e l))::uf) io hs∧da w M1 w M2∧(∀b,M2 b↔(M1 b∧eh (ν id)≠some b)):=by
 obtain⟨M2,eH,_,BR⟩:=Tr.freeze h.mem aR
 have rf:id∉keys io:=fun hk=>by
  obtain⟨q,hq,rfl⟩:=List.mem_map.1 hk
  have:=(h.PM q hq).1
  rw[aR]at this;cases this
 have Qo:id∉keys (uo++uf):=fun hk=>h.ks id hk e l aR
 have XM:id∉keys uf:=fun hk=>Qo (by simp only[keys,List.map_append,List.mem_append];exact .inr hk)
 have h0:H0 id=some (.own e l):=by rw[←h.same id Qo rf];exact aR
 have hq:Hq id=some (.own e l):=h.fz.XL aR
 have lJ: ∀i,i∈keys (uo++(id,some (aQ.jW e l))::uf)↔i=id∨i∈keys (uo++uf):=by
  intro i
  simp only[keys,List.map_append,List.map_cons,List.mem_append,List.mem_cons]
  constructor
  ·rintro(h|h|h)
   ·exact .inr (.inl h)
   ·exact .inl h
   ·exact .inr (.inr h)
  ·rintro(h|h|h)
   ·exact .inr (.inl h)
   ·exact .inl h
   ·exact .inr (.inr h)
 refine⟨M2,⟨eH.mem,h.Kp,h.br.trans eH.br,fun i hi=> ?_,h.Qn,fun q sB=> ?_,h.ion,fun i hi e' l'=> ?_,fun i hi=> ?_,fun i=> ?_,h.uov,fun u hu=> ?_,h.nd,fun b hb=> ?_,h.Hm,h.none,h.iob,fun i hi kg=> ?_⟩,eH.br,BR⟩
 ·rw[tJ _ _ XM]
  by_cases bq:i=id
  ·subst bq;rw[ak,ak]
  ·rw[al _ _ bq,al _ _ bq];exact h.ext i hi
 ·obtain⟨h1,h2,h3⟩:=h.PM q sB
  have gH:q.1≠id:=fun e=>rf (e▸List.mem_map_of_mem sB)
  exact⟨by rw[al _ _ gH];exact h1,h2,h3⟩
 ·by_cases bq:i=id
  ·subst bq;rw[ak];intro h';cases h'
  ·rw[al _ _ bq]
   exact h.ks i (((lJ i).1 hi).resolve_left bq) e' l'
 ·rcases(lJ i).1 hi with rfl|hi
  ·exact⟨rf,e,l,h0⟩
  ·exact h.ksn i hi
 ·by_cases bq:i=id
  ·subst bq;exact .inr ⟨e,l,hq,ak _ _ _⟩
  ·rw[al _ _ bq];exact h.fz i
 ·rcases List.mem_cons.1 hu with rfl|hu
  ·exact⟨e,l,rfl,h0⟩
  ·exact h.ufv u hu
 ·exact(BR b).2 ⟨h.hM b hb,fun dv=>h.none b hb id _ hq trivial dv⟩
 ·have gH:i≠id:=fun e=>hi ((lJ i).2 (.inl e))
  rw[al _ _ gH]
  exact h.same i (fun h'=>hi ((lJ i).2 (.inr h'))) kg
theorem gS.hand{H0 H1 Hq:Nat→Option aQ}{M1:Nat→Prop}{uo uf:fg}{io:List (Nat×Ty)}{hs:List Nat}(h:gS c w M ν H0 H1 Hq M1 uo uf io hs){id:Nat}{e:Ty}{l:List e.den}(aR:H1 id=some (.own e l)):
  gS c w M ν H0 (bn H1 id (some .gone)) (bn Hq id (some .gone)) M1 ((id,some .gone)::uo) uf io (hs++(eh (ν id)).toList):=by
 have rf:id∉keys io:=fun hk=>by
  obtain⟨q,hq,rfl⟩:=List.mem_map.1 hk
  have:=(h.PM q hq).1
  rw[aR]at this;cases this
 have Qo:id∉keys (uo++uf):=fun hk=>h.ks id hk e l aR
 have XM:id∉keys uo:=fun hk=>Qo (by simp only[keys,List.map_append,List.mem_append];exact .inl hk)
 have h0:H0 id=some (.own e l):=by rw[←h.same id Qo rf];exact aR
 have hq:Hq id=some (.own e l):=h.fz.XL aR
 have lJ: ∀i,i∈keys ((id,some aQ.gone)::uo++uf)↔i=id∨i∈keys (uo++uf):=by
  intro i
  simp only[keys,List.map_append,List.map_cons,List.cons_append,List.mem_append,List.mem_cons]
 have wR: ∀b,eh (ν id)=some b→b∉hs:=fun b hb dv=>h.none b dv id _ hq trivial hb
 refine⟨(Tr.gone h.mem id).mem,(Tr.gone h.Kp id).mem,h.br,fun i hi=> ?_,fun i hi=> ?_,fun q sB=> ?_,h.ion,fun i hi e' l'=> ?_,fun i hi=> ?_,fun i=> ?_,fun u hu=> ?_,h.ufv,?_,fun b hb=> ?_,fun b hb=> ?_,fun b hb i e' hi hm=> ?_,fun b hb hb0=> ?_,fun i hi kg=> ?_⟩
 ·have:=tJ (id,some .gone) (uo++uf) Qo [] H0
  simp only[List.nil_append]at this
  rw[List.cons_append,this]
  by_cases bq:i=id
  ·subst bq;rw[ak,ak]
  ·rw[al _ _ bq,al _ _ bq];exact h.ext i hi
 ·have:=tJ (id,some .gone) uo XM [] H0
  simp only[List.nil_append]at this
  rw[this]
  by_cases bq:i=id
  ·subst bq;rw[ak,ak]
  ·rw[al _ _ bq,al _ _ bq];exact h.Qn i hi
 ·obtain⟨h1,h2,h3⟩:=h.PM q sB
  have gH:q.1≠id:=fun e=>rf (e▸List.mem_map_of_mem sB)
  exact⟨by rw[al _ _ gH];exact h1,by rw[al _ _ gH];exact h2,h3⟩
 ·by_cases bq:i=id
  ·subst bq;rw[ak];intro h';cases h'
  ·rw[al _ _ bq]
   exact h.ks i (((lJ i).1 hi).resolve_left bq) e' l'
 ·rcases(lJ i).1 hi with rfl|hi
  ·exact⟨rf,e,l,h0⟩
  ·exact h.ksn i hi
 ·by_cases bq:i=id
  ·subst bq;left;rw[ak,ak]
  ·rw[al _ _ bq,al _ _ bq];exact h.fz i
 ·rcases List.mem_cons.1 hu with rfl|hu
  ·rfl
  ·exact h.uov u hu
 ·refine List.nodup_append.2 ⟨h.nd,?_,fun x hx y hy=> ?_⟩
  ·cases eh (ν id)<;>simp
  ·rw[Option.mem_toList]at hy
   intro hxy;subst hxy
   exact wR x hy hx
 ·rcases List.mem_append.1 hb with hb|hb
  ·exact h.hM b hb
  ·rw[Option.mem_toList]at hb
   exact(h.mem.ix id _ aR).su trivial hb
 ·rcases List.mem_append.1 hb with hb|hb
  ·exact h.Hm b hb
  ·rw[Option.mem_toList]at hb
   exact h.mem.new id _ b aR trivial hb
 ·by_cases bq:i=id
  ·subst bq;rw[ak]at hi;cases hi;simp[aQ.mut]at hm
  ·rw[al _ _ bq]at hi
   rcases List.mem_append.1 hb with hb|hb
   ·exact h.none b hb i e' hi hm
   ·rw[Option.mem_toList]at hb
    intro dv
    exact h.Kp.uU i id e' _ b bq hi hm hq trivial dv hb
 ·rcases List.mem_append.1 hb with hb|hb
  ·exact h.iob b hb hb0
  ·rw[Option.mem_toList]at hb
   exact absurd hb0 (h.mem.td id e l b aR hb)
 ·have gH:i≠id:=fun e=>hi ((lJ i).2 (.inl e))
  rw[al _ _ gH]
  exact h.same i (fun h'=>hi ((lJ i).2 (.inr h'))) kg
theorem gS.XN{H0 H1 Hq:Nat→Option aQ}{M1:Nat→Prop}{uo uf:fg}{io:List (Nat×Ty)}{hs:List Nat}(h:gS c w M ν H0 H1 Hq M1 uo uf io hs){id:Nat}{τ:Ty}{x:τ.den}(aR:H1 id=some (.obj τ x)):
  gS c w M ν H0 (bn H1 id (some .gone)) (bn Hq id (some .gone)) M1 uo uf (io++[(id,τ)]) (hs++(eh (ν id)).toList):=by
 have rf:id∉keys io:=fun hk=>by
  obtain⟨q,hq,rfl⟩:=List.mem_map.1 hk
  have:=(h.PM q hq).1
  rw[aR]at this;cases this
 have hq:Hq id=some (.obj τ x):=h.fz.acI aR
 have Qo:id∉keys (uo++uf):=fun hk=>by
  have h1:=h.ext id rf
  obtain⟨_,e,l,h0⟩:=h.ksn id hk
  have key: ∀(ups:fg) (H:Nat→Option aQ),(∀u∈ups,u.2=some .gone∨ ∃e l,u.2=some (.jW e l))→id∈keys ups→bS H ups id=some .gone∨ ∃e l,bS H ups id=some (.jW e l):=by
   intro ups
   induction ups with
   |nil=>intro H _ hk;simp[keys]at hk
   |cons u ups ih=>
    intro H hv hk
    by_cases PN:id∈keys ups
    ·exact ih _ (fun v MA=>hv v (List.mem_cons_of_mem _ MA)) PN
    ·show bS (bn H u.1 u.2) ups id=_∨ ∃e l,bS (bn H u.1 u.2) ups id=_
     rw[iZ PN]
     have hui:id=u.1:=by
      simp only[keys,List.map_cons,List.mem_cons]at hk PN
      exact hk.resolve_right PN
     rw[hui,ak]
     exact hv u List.mem_cons_self
  have:=key (uo++uf) H0 (fun u hu=>by
   rcases List.mem_append.1 hu with hu|hu
   ·exact .inl (h.uov u hu)
   ·obtain⟨e,l,h',_⟩:=h.ufv u hu;exact .inr ⟨e,l,h'⟩) hk
  rw[h1,aR]at this
  rcases this with h'|⟨_,_,h'⟩<;>cases h'
 have h0:H0 id=some (.obj τ x):=by rw[←h.same id Qo rf];exact aR
 have lJ: ∀i,i∈keys (io++[(id,τ)])↔i∈keys io∨i=id:=by
  intro i
  simp only[keys,List.map_append,List.map_cons,List.map_nil,List.mem_append,List.mem_cons,List.not_mem_nil,or_false]
 have wR: ∀b,eh (ν id)=some b→b∉hs:=fun b hb dv=>h.none b dv id _ hq trivial hb
 refine⟨(Tr.gone h.mem id).mem,(Tr.gone h.Kp id).mem,h.br,fun i hi=> ?_,fun i hi=> ?_,fun q sB=> ?_,?_,fun i hi e' l'=> ?_,fun i hi=> ?_,fun i=> ?_,h.uov,h.ufv,?_,fun b hb=> ?_,fun b hb=> ?_,fun b hb i e' hi hm=> ?_,fun b hb hb0=> ?_,fun i hi kg=> ?_⟩
 ·rw[al _ _ (fun e=>hi ((lJ i).2 (.inr e)))];exact h.ext i (fun h'=>hi ((lJ i).2 (.inl h')))
 ·rw[al _ _ (fun e=>hi ((lJ i).2 (.inr e)))];exact h.Qn i (fun h'=>hi ((lJ i).2 (.inl h')))
 ·rcases List.mem_append.1 sB with sB|sB
  ·obtain⟨h1,h2,h3⟩:=h.PM q sB
   have gH:q.1≠id:=fun e=>rf (e▸List.mem_map_of_mem sB)
   exact⟨by rw[al _ _ gH];exact h1,by rw[al _ _ gH];exact h2,h3⟩
  ·rw[List.mem_singleton]at sB;subst sB
   exact⟨ak _ _ _,ak _ _ _,x,h0⟩
 ·simp only[keys,List.map_append,List.map_cons,List.map_nil]
  refine List.nodup_append.2 ⟨h.ion,by simp,fun x hx y hy=> ?_⟩
  rw[List.mem_singleton]at hy;subst hy
  intro e;exact rf (e▸hx)
 ·by_cases bq:i=id
  ·subst bq;rw[ak];intro h';cases h'
  ·rw[al _ _ bq];exact h.ks i hi e' l'
 ·obtain⟨h1,h2⟩:=h.ksn i hi
  exact⟨fun h'=>((lJ i).1 h').elim h1 (fun e=>Qo (e▸hi)),h2⟩
 ·by_cases bq:i=id
  ·subst bq;left;rw[ak,ak]
  ·rw[al _ _ bq,al _ _ bq];exact h.fz i
 ·refine List.nodup_append.2 ⟨h.nd,?_,fun x hx y hy=> ?_⟩
  ·cases eh (ν id)<;>simp
  ·rw[Option.mem_toList]at hy
   intro hxy;subst hxy
   exact wR x hy hx
 ·rcases List.mem_append.1 hb with hb|hb
  ·exact h.hM b hb
  ·rw[Option.mem_toList]at hb
   exact(h.mem.ix id _ aR).su trivial hb
 ·rcases List.mem_append.1 hb with hb|hb
  ·exact h.Hm b hb
  ·rw[Option.mem_toList]at hb
   exact h.mem.new id _ b aR trivial hb
 ·by_cases bq:i=id
  ·subst bq;rw[ak]at hi;cases hi;simp[aQ.mut]at hm
  ·rw[al _ _ bq]at hi
   rcases List.mem_append.1 hb with hb|hb
   ·exact h.none b hb i e' hi hm
   ·rw[Option.mem_toList]at hb
    intro dv
    exact h.Kp.uU i id e' _ b bq hi hm hq trivial dv hb
 ·rcases List.mem_append.1 hb with hb|hb
  ·obtain⟨q,hq1,hq2⟩:=h.iob b hb hb0
   exact⟨q,List.mem_append_left _ hq1,hq2⟩
  ·rw[Option.mem_toList]at hb
   exact⟨(id,τ),by simp,hb⟩
 ·have gH:i≠id:=fun e=>kg ((lJ i).2 (.inr e))
  rw[al _ _ gH]
  exact h.same i hi (fun h'=>kg ((lJ i).2 (.inl h')))
end VM
end
section
namespace VM
open Go
variable{P:Program}{E:Env}{o:Oper}{a:Act}{w:World}{M:Nat→Prop}{ν:Nat→Value}{σ:St}{c:Ctx}{α:Type}{r:α}{next:Act→World→Prop}{Q:Exit→Act→World→Prop}
theorem oa.XO{H:Nat→Option aQ}{id:Nat}{e e':aQ}(aR:H id=some e)(hl:e.gQ e'):oa H ν (bn H id (some e')) ν:=
 ⟨fun i e1 hi=>by
  by_cases bq:i=id
  ·subst bq;rw[aR]at hi;cases hi;exact⟨e',ak _ _ _,hl⟩
  ·exact⟨e1,by rw[al _ _ bq];exact hi,.refl e1⟩,fun _ _=>rfl⟩
theorem aQ.jF(e:aQ):e.gQ .gone:=by cases e<;>simp[aQ.gQ]
theorem VR.acK{H H':Nat→Option aQ}{ν':Nat→Value}{a:Ty}{x:a.den}{v:Value}(h:VR w M H ν (vH a x) v):VR w M H' ν' (vH a x) v:=by
 unfold vH at h ⊢
 split at h
 ·simp only[VR]at h ⊢;exact h
 ·simp only[VR]at h ⊢;exact h
theorem fv.free{H H':Nat→Option aQ}{ν':Nat→Value}: ∀{τ:Ty} {x:τ.den} {vs:List Value},fv w M H ν (lA τ x) vs→fv w M H' ν' (lA τ x) vs
 | .pair a b,x,v::vs,h=>by
  simp only[lA,fv]at h ⊢
  exact⟨VR.acK h.1,fv.free h.2⟩
 | .pair a b,x,[],h=>by simp[lA,fv]at h
 | .int _,_,[],_| .bool,_,[],_| .str,_,[],_| .slice _,_,[],_| .unit,_,[],_| .arr _ _,_,[],_=>by simp[lA,fv]
 | .int _,_,_::_,h| .bool,_,_::_,h| .str,_,_::_,h| .slice _,_,_::_,h| .unit,_,_::_,h| .arr _ _,_,_::_,h=>by simp[lA,fv]at h
theorem vR{H0 H1 Hq:Nat→Option aQ}{M1:Nat→Prop}{uo uf:fg}{io:List (Nat×Ty)}{hs:List Nat}(h:gS c w M ν H0 H1 Hq M1 uo uf io hs){m:AM}{x:aX}{v:Value}(hv:VR w M1 H1 ν x v)
  {k:m.den→(Nat→Option aQ)→List Nat→fg→fg→List (Nat×Ty)→Option α} (hk:ke m x H1 k=some r):
  ∃y H2 rd C1 C2 zL Mb M2,k y H2 rd C1 C2 zL=some r∧gS c w M ν H0 H2 Mb M2 (C1++uo) (C2++uf) (io++zL) (hs++cq m v)∧da w M1 w M2∧oa H1 ν H2 ν∧A1 w M2 m y v∧
   zL.map (fun q=>ν q.1)=(if m.fx then [v]else [])∧zL.map (·.2)=kj [m]:=by
 unfold ke at hk
 split at hk
 ·
  rename_i τ k
  obtain⟨y,rd,ups,hk,hy⟩:=xx h.mem hv hk
  rcases hy with⟨rfl,hV⟩|⟨id,e,l,rfl,aR,hV⟩
  ·exact⟨y,H1,rd,[],[],[],Hq,M1,hk,by simpa [cq]using h,.refl w M1,.refl H1 ν,hV,rfl,rfl⟩
  ·obtain⟨M2,hA,hK,BR⟩:=h.freeze aR
   exact⟨y,_,rd,[],_,[],Hq,M2,hk,by simpa [cq]using hA,hK,.XO aR ⟨rfl,rfl⟩,hV M2 BR,rfl,rfl⟩
 ·
  rename_i e k
  split at hk
  ·obtain⟨ad,hv⟩:=VR.emp.1 hv
   subst hv
   have hb:eh (.slice ad 0 0)=none:=by cases ad<;>simp[eh]
   exact⟨[],H1,[],[],[],[],Hq,M1,hk,by simpa [cq,hb]using h,.refl w M1,.refl H1 ν,by simp only[A1,ER];exact .inl ⟨trivial,ad,rfl⟩,rfl,rfl⟩
  ·rename_i id
   split at hk
   ·rename_i e' l aR
    obtain⟨e1,hk⟩:=a7 hk
    cases e1
    simp only[VR]at hv
    obtain⟨_,rfl⟩:=hv
    refine⟨_,_,_,_,_,_,_,M1,hk,by simpa [cq]using h.hand aR,.refl w M1,.XO aR (aQ.jF _),?_,rfl,rfl⟩
    have:=h.mem.ix id _ aR
    exact this
   ·cases hk
  ·cases hk
 ·
  rename_i τ k
  split at hk
  ·rename_i id
   split at hk
   ·rename_i υ z aR
    obtain⟨e1,hk⟩:=a7 hk
    subst e1
    simp only[VR]at hv
    obtain⟨e,he,js⟩:=hv
    rw[aR]at he;cases he
    simp only[AR]at js
    obtain⟨_,b,hb,hv⟩:=js
    have MK:v=ν id:=by rw[hv,hb];rfl
    subst MK
    refine⟨_,_,_,_,_,_,_,M1,hk,by simpa [cq]using h.XN aR,.refl w M1,.XO aR (aQ.jF _),?_,rfl,rfl⟩
    have:=h.mem.ix id _ aR
    exact this
   ·cases hk
  ·cases hk
 ·
  rename_i f τ k
  split at hk
  ·rename_i f' cs
   obtain⟨hf,XP⟩:=bA hk
   clear hk
   have hf:=Nat.eq_of_beq_eq_true hf
   subst hf
   have hk:=XP
   clear XP
   simp only[VR]at hv
   obtain⟨us,rfl,Qe⟩:=hv
   obtain⟨y,rd,ups,hk,hy⟩:=yc h.mem Qe hk
   split at hk
   ·exact⟨y,H1,rd,[],[],[],Hq,M1,hk,by simpa [cq]using h,.refl w M1,.refl H1 ν,by simp only[A1,VR];exact⟨us,rfl,hy rfl⟩,rfl,rfl⟩
   ·cases hk
  ·cases hk
 ·cases hk
 ·
  rename_i τ k
  split at hk
  ·rename_i υ z
   obtain⟨e1,hk⟩:=a7 hk
   subst e1
   exact⟨_,H1,_,[],[],[],Hq,M1,hk,by simpa [cq]using h,.refl w M1,.refl H1 ν,by simp only[A1,VR]at hv ⊢;exact hv,rfl,rfl⟩
  ·cases hk
theorem vS{H0:Nat→Option aQ}: ∀{ms:List AM} {lF:List aX} {vs:List Value} {H1 Hq:Nat→Option aQ} {M1:Nat→Prop} {rd:List Nat} {uo uf:fg} {io:List (Nat×Ty)} {hs:List Nat} {K:HP ms→List Nat→fg→fg→List (Nat×Ty)→Option α},
  gS c w M ν H0 H1 Hq M1 uo uf io hs→fv w M1 H1 ν lF vs→ow ms lF H1 rd uo uf io K=some r→
  ∃x uX C1 C2 zL H2 Mb M2,K x uX C1 C2 zL=some r∧gS c w M ν H0 H2 Mb M2 C1 C2 zL (hs++cB ms vs)∧da w M1 w M2∧fG w M2 ms x vs∧
   zL.map (fun q=>ν q.1)=io.map (fun q=>ν q.1)++dq ms vs∧zL.map (·.2)=io.map (·.2)++kj ms
 |[],[],[],H1,Hq,M1,rd,uo,uf,io,hs,K,h,_,hk=>
  ⟨(),rd,uo,uf,io,H1,Hq,M1,hk,by simpa [cB]using h,.refl w M1,rfl,by simp[dq],by simp[kj]⟩
 |[m],[x],[v],H1,Hq,M1,rd,uo,uf,io,hs,K,h,hv,hk=>by
  simp only[fv,and_true]at hv
  obtain⟨y,H2,XD,uo1,uf1,io1,Mb,M2,hk,hA,hK,hG,hy,Qp,Mc⟩:=vR h hv (hk:ke m x H1 _=some r)
  refine⟨y,_,_,_,_,H2,Mb,M2,hk,by simpa [cB]using hA,hK,⟨v,[],rfl,hy,rfl⟩,?_,?_⟩
  ·rw[List.map_append,Qp];cases rf:m.fx<;>simp[dq,rf]
  ·rw[List.map_append,Mc]
 |m::n::ms,x::xs,v::vs,H1,Hq,M1,rd,uo,uf,io,hs,K,h,hv,hk=>by
  simp only[fv]at hv
  obtain⟨y,H2,XD,uo1,uf1,io1,Mb,M2,hk,hA,hK,hG,hy,Qp,Mc⟩:=vR h hv.1 (hk:ke m x H1 _=some r)
  obtain⟨ys,uX,C1,C2,zL,H3,Hq3,M3,hk,hA',hK',hys,hi3,hi4⟩:=vS (ms:=n::ms) hA (fv.br hK hG hv.2) hk
  refine⟨(y,ys),_,_,_,_,H3,Hq3,M3,hk,by simpa [cB,List.append_assoc]using hA',hK.trans hK',⟨v,vs,rfl,?_,hys⟩,?_,?_⟩
  ·refine A1.qy hK' (fun b hb=>⟨rfl,hA'.hM b ?_⟩) hy
   exact List.mem_append_left _ (List.mem_append_right _ hb)
  ·rw[hi3,List.map_append,Qp,List.append_assoc]
   congr 1
   cases rf:m.fx<;>simp[dq,rf]
  ·rw[hi4,List.map_append,Mc,List.append_assoc]
   congr 1
   cases m<;>simp[kj]
 |[],_::_,_,_,_,_,_,_,_,_,_,_,_,_,hk=>by simp[ow]at hk
 |[_],[],_,_,_,_,_,_,_,_,_,_,_,_,hk=>by simp[ow]at hk
 |[_],_::_::_,_,_,_,_,_,_,_,_,_,_,_,_,hk=>by simp[ow]at hk
 |_::_::_,[],_,_,_,_,_,_,_,_,_,_,_,_,hk=>by simp[ow]at hk
 |_,_::_,[],_,_,_,_,_,_,_,_,_,_,hv,_=>by simp[fv]at hv
 |[],[],_::_,_,_,_,_,_,_,_,_,_,_,hv,_=>by simp[fv]at hv
 |[_],[_],_::_::_,_,_,_,_,_,_,_,_,_,_,hv,_=>by simp[fv]at hv
end VM
end
