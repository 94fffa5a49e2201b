/- A part of the proof of HedgeLess of layer 22: a machine that reads a function of the program as an equation between values. -/
import Derived.Test.YtocmlaipoebfeaaGreatVm2
import Derived.Great.FillDense
set_option linter.all false
section
namespace VM
open Go
variable{P:Program}{E:Env}{o:Oper}{a:Act}{w:World}{M:Nat→Prop}{ν:Nat→Value}{σ:St}{c:Ctx}{α:Type}{r:α}{next:Act→World→Prop}{Q:Exit→Act→World→Prop}
theorem XM(off:Nat)(new:Array Value)(cs:Array Value)(h:off+new.size≤cs.size):
  (new.zipIdx.foldl (λcs (x:Value×Nat)=>cs.setIfInBounds (off+x.2) x.1) cs)=(fk cs.toList off new.toList).toArray:=by
 have h1:new.zipIdx.foldl (λcs (x:Value×Nat)=>cs.setIfInBounds (off+x.2) x.1) cs=(new.toList.zipIdx 0).foldl (λcs (x:Value×Nat)=>cs.setIfInBounds (off+x.2) x.1) cs:=by
  rw[←Array.foldl_toList,Array.toList_zipIdx]
 rw[h1]
 obtain⟨hs,hk⟩:=Great.foldl_set off new.toList 0 cs
 apply Array.ext_getElem?
 intro k
 rw[hk k,←gP (xs:=cs)]
 have hl:new.toList.length=new.size:=bL
 have hc:cs.toList.length=cs.size:=bL
 unfold fk
 rw[Na]
 by_cases h2:k<off
 ·rw[aj ω,bH,tc (by rw[cc];omega),List.getElem?_take_of_lt h2]
 ·by_cases h3:k<off+new.size
  ·rw[ah ω,tc (by rw[aM,cc];omega),lY (by rw[cc];omega),cc]
   congr 1
   omega
  ·rw[aj ω,lY (by rw[aM,cc];omega),aM,cc,mh]
   congr 1
   omega
theorem Je{place:Nat→Option (Nat×Nat)}{cs:Array Value}{i:Nat}{v:Value}{rest:List (Nat×Value)}{off s:Nat}(hp:place i=some (off,s))(hs:v.cells.size=s)(h:off+s≤cs.size):
  Instr.fill place cs ((i,v)::rest)=Instr.fill place (fk cs.toList off v.cells.toList).toArray rest:=by
 have h1: ¬(decide (v.cells.size≠s)||decide (off+v.cells.size>cs.size))=true:=by simp[hs];omega
 conv=>lhs;unfold Instr.fill
 rw[hp]
 simp only
 rw[aj h1]
 congr 1
 exact XM off v.cells cs ω
theorem vy(a:Act)(ps:Array (Nat×Operand)):(ps.map λ(i,x)=>(i,a.eval x)).toList=ps.toList.map λp=>(p.1,a.eval p.2):=by
 rw[Array.toList_map]
def PR(w:World)(M:Nat→Prop)(H:Nat→Option bl)(ν:Nat→Value):List (Nat×bI)→List (Nat×Value)→Prop
 |[],[]=>True
 |p::ps,q::qs=>p.1=q.1∧VR w M H ν p.2 q.2∧PR w M H ν ps qs
 |_,_=>False
theorem PR.cm{w':World}{M':Nat→Prop}{H H':Nat→Option bl}{ν':Nat→Value}(k:fi w M w' M')(g:tU H ν H' ν'): ∀{ps:List (Nat×bI)} {qs:List (Nat×Value)},PR w M H ν ps qs→PR w' M' H' ν' ps qs
 |[],[],_=>trivial
 |_::_,_::_,h=>⟨h.1,h.2.1.cm k g,PR.cm k g h.2.2⟩
 |[],_::_,h=>h.elim
 |_::_,[],h=>h.elim
theorem Core.pr(hc:Core c σ a.tmps w M ν): ∀ps:List (Nat×Operand),PR w M σ.H ν (ps.map λp=>(p.1,σ.ρ p.2)) (ps.map λp=>(p.1,a.eval p.2))
 |[]=>trivial
 |p::ps=>⟨rfl,hc.ev p.2,hc.pr ps⟩
theorem Da{e:Ty}{n:Nat}{H:Nat→Option bl}: ∀(ps:List (Nat×bI)) (qs:List (Nat×Value)) (H1:Nat→Option bl) (M:Nat→Prop) (l:List e.den) (cs:Array Value) (rd:List Nat) (ups:ja) (K:List e.den→List Nat→ja→Option α),
  Fz H H1→Mem c H1 w M ν→PR w M H1 ν ps qs→l.length=n→cs.size=n*e.size→rV w M e cs.toList l→H1=c9 H ups→xd e H n ps l rd ups K=some r→
  ∃l' BY ow M' cs',K l' BY ow=some r∧Tr c H1 w M ν (c9 H ow) w M' ν∧Fz H (c9 H ow)∧l'.length=n∧cs'.size=n*e.size∧rV w M' e cs'.toList l'∧
   Instr.fill (λi=>some (i*e.size,e.size)) cs qs=some cs':=by
 intro ps
 induction ps with
 |nil=>
  intro qs H1 M l cs rd ups K hz hm hp hl hs hr hH h
  cases qs with
  |cons _ _=>exact hp.elim
  |nil=>exact⟨l,rd,ups,M,cs,h,hH▸Tr.refl hm,hH▸hz,hl,hs,hr,rfl⟩
 |cons p ps ih=>
  intro qs H1 M l cs rd ups K hz hm hp hl hs hr hH h
  cases qs with
  |nil=>exact hp.elim
  |cons q qs=>
   obtain⟨h1,h2,h3⟩:=hp
   unfold xd at h
   obtain⟨hb,h⟩:=cF h
   have fj:p.1<n:=by simpa [Av]using hb
   obtain⟨y,rd1,RG,M1,h,iw,hV,Db,_⟩:=oy hz hm h2 h
   have hlen:(q.2.cells).size=e.size:=by rw[←bL];exact hV.cells.length
   have hmul:=eG (s:=e.size) fj
   have yJ:=rV.set (hr.cm iw.cm) (by rw[hl,bL,hs];exact aH _) (i:=p.1) ω hV.cells
   obtain⟨l',BY,ow,M',cs',hK,ajB,D6,KQ,RH,eF,hf⟩:=ih qs (c9 H1 RG) M1 (l.set p.1 y) (fk cs.toList (p.1*e.size) q.2.cells.toList).toArray (rd1++rd) (ups++RG) K Db iw.mem (h3.cm iw.cm iw.goes)
    (by rw[bM];exact hl) (by rw[je,gD (by rw[bL,bL];omega),bL,hs]) yJ (by rw[gl,hH]) h
   refine⟨l',BY,ow,M',cs',hK,iw.trans ajB,D6,KQ,RH,eF,?_⟩
   rw[Je (off:=p.1*e.size) (s:=e.size) (by rw[h1]) hlen ω]
   exact hf
theorem K1{τ:Ty}{H:Nat→Option bl}{place:Nat→Option (Nat×Nat)}(AN: ∀(x:τ.den) n υ y o,D1 τ x n υ y o→place n=some (o,υ.size)):
  ∀(ps:List (Nat×bI)) (qs:List (Nat×Value)) (H1:Nat→Option bl) (M:Nat→Prop) (x:τ.den) (cs:Array Value) (rd:List Nat) (ups:ja) (K:τ.den→List Nat→ja→Option α),
  Fz H H1→Mem c H1 w M ν→PR w M H1 ν ps qs→Rd w M τ cs.toList x→H1=c9 H ups→vu τ H ps x rd ups K=some r→
  ∃x' BY ow M' cs',K x' BY ow=some r∧Tr c H1 w M ν (c9 H ow) w M' ν∧Fz H (c9 H ow)∧Rd w M' τ cs'.toList x'∧Instr.fill place cs qs=some cs'∧
   ∀m υ,KK τ m=some υ→(ps.all λp=> !(Nat.beq p.1 m))=true→(cs'.toList.drop (sV τ m)).take υ.size=(cs.toList.drop (sV τ m)).take υ.size:=by
 intro ps
 induction ps with
 |nil=>
  intro qs H1 M x cs rd ups K hz hm hp hr hH h
  cases qs with
  |cons _ _=>exact hp.elim
  |nil=>exact⟨x,rd,ups,M,cs,h,hH▸Tr.refl hm,hH▸hz,hr,rfl,λ_ _ _ _=>rfl⟩
 |cons p ps ih=>
  intro qs H1 M x cs rd ups K hz hm hp hr hH h
  cases qs with
  |nil=>exact hp.elim
  |cons q qs=>
   obtain⟨h1,h2,h3⟩:=hp
   unfold vu at h
   obtain⟨υ,y0,of,hf,h⟩:=uG h
   obtain⟨y,rd1,RG,M1,h,iw,hV,Db,_⟩:=oy hz hm h2 h
   obtain⟨υ',y',o',k',BZ,jY,FV⟩:=tp h
   obtain⟨rfl,rfl⟩:=BZ.eq
   obtain⟨rfl,rfl⟩:=hf.eq
   obtain⟨e1,Jf⟩:=bG jY
   obtain⟨x',uQ,_,ld⟩:=FV _ _ Jf
   have hlen:(q.2.cells).size=(wM τ p.1).size:=by rw[←bL];exact hV.cells.length
   have hb:=hf.bound
   have Ja:=hr.length
   rw[bL]at Ja
   obtain⟨x2,BY,ow,M',cs',hK,ajB,D6,eF,U5,RI⟩:=ih qs (c9 H1 RG) M1 x' (fk cs.toList (sV τ p.1) q.2.cells.toList).toArray (rd1++rd) (ups++RG) K Db iw.mem (h3.cm iw.cm iw.goes)
    (ld w M1 _ _ (hr.cm iw.cm) hV.cells) (by rw[gl,hH]) uQ
   refine⟨x2,BY,ow,M',cs',hK,iw.trans ajB,D6,eF,?_,λm υ jY ki=> ?_⟩
   ·rw[Je (off:=sV τ p.1) (s:=(wM τ p.1).size) (by rw[←h1];exact AN _ _ _ _ _ hf) hlen ω]
    exact U5
   ·rw[Ao,bB]at ki
    rw[RI m υ jY ki.2]
    obtain⟨y2,o2,hf2⟩:=uH jY x
    obtain⟨e3,e4⟩:=hf2.eq
    subst e3 e4
    have iI:p.1≠m:=λe=>by have:=ki.1;rw[e,uC]at this;cases this
    have hap:=hf.apart hf2 iI
    have uM:=hf2.bound
    show((fk cs.toList (sV τ p.1) q.2.cells.toList).drop _).take _=_
    rw[KS (by rw[bL];omega) (by rw[bL,bL];omega)]
theorem fO.places: ∀(τ:Ty) (fs:Array Field) (n off:Nat),fO P τ (.inr (fs,n,off))→
  ∃ps,(fs.toList.drop n).mapM (λf=>(P.info? f.type).map λi=>(f.offset,i.size))=some ps∧ ∀(x:τ.den) m υ y o,D1 τ x m υ y o→ps[m]? =some (off+o,υ.size)
 | .unit,fs,n,off,h=>by
  simp only[fO]at h
  refine⟨[],?_,λx m υ y o hf=>by cases hf⟩
  rw[kI (by rw[bL];omega)];rfl
 | .pair t b,fs,n,off,h=>by
  simp only[fO]at h
  obtain⟨f,hf,ho,ha,hb⟩:=h
  obtain⟨ps,K2,U5⟩:=fO.places b fs (n+1) (off+t.size) hb
  obtain⟨i,hi,hs,_⟩:=(show kO P t f.type from ha).base
  have fj:n<fs.toList.length:=by rw[bL];exact(kH.1 hf).1
  have hfe:fs.toList[n]=f:=by rw[Ab];exact(kH.1 hf).2
  refine⟨(off,t.size)::ps,?_,λx m υ y o BZ=> ?_⟩
  ·rw[qI fj,An,K2,hfe,hi]
   simp[ho,hs]
  ·cases BZ with
   |here=>simp
   |there _ h'=>simp[U5 _ _ _ _ _ h',py]
 | .int _,_,_,_,h| .bool,_,_,_,h| .str,_,_,_,h| .slice _,_,_,_,h| .arr _ _,_,_,_,h=>by simp[fO]at h
theorem kO.places{τ:Ty}{t:TypeId}(h:kO P τ t)(ha:τ.isAgg=true)(hn: ∀n e,τ≠ .arr n e):
  ∃fs ps,P.underlying t=some (.struct fs)∧fs.toList.mapM (λf=>(P.info? f.type).map λi=>(f.offset,i.size))=some ps∧ ∀(x:τ.den) m υ y o,D1 τ x m υ y o→ps[m]? =some (o,υ.size):=by
 cases τ with
 |unit=>
  simp only[kO,fO]at h
  obtain⟨_,fs,hu,hs⟩:=h
  refine⟨fs,[],hu,?_,λx m υ y o hf=>by cases hf⟩
  have:fs.toList=[]:=ta (by rw[bL];exact hs)
  rw[this];rfl
 |pair t' b=>
  simp only[kO,fO]at h
  obtain⟨_,fs,f,hu,hf,ho,ha',hb⟩:=h
  have hg:fO P (.pair t' b) (.inr (fs,0,0)):=by
   simp only[fO]
   exact⟨f,hf,ho,ha',by simpa using hb⟩
  obtain⟨ps,K2,U5⟩:=fO.places _ fs 0 0 hg
  exact⟨fs,ps,hu,K2,λx m υ y o BZ=>by simpa using U5 x m υ y o BZ⟩
 |arr n e=>exact absurd rfl (hn n e)
 |int _=>simp[Ty.isAgg]at ha
 |bool=>simp[Ty.isAgg]at ha
 |str=>simp[Ty.isAgg]at ha
 |slice _=>simp[Ty.isAgg]at ha
theorem AO{ρ:Operand→Value}{t:TypeId}{ps:Array (Nat×Operand)}(ho:o.op= .build t ps){v:Value}(h:(Instr.build t (ps.map λ(i,x)=>(i,ρ x))).run P w= .ok v w):(execOp ρ o).run P w= .ok (.value v) w:=by
 simp[execOp,ho,h]
theorem AP{ρ:Operand→Value}{t:TypeId}{n:Nat}{ps:Array (Nat×Operand)}(ho:o.op= .buildSlice t n ps){v:Value}{w':World}(h:(Instr.buildSlice t n (ps.map λ(i,x)=>(i,ρ x))).run P w= .ok v w'):(execOp ρ o).run P w= .ok (.value v) w':=by
 simp[execOp,ho,h]
theorem VR.Tx{H:Nat→Option bl}{τ:Ty}(ha:τ.isAgg=true){cs:Array Value}{x:τ.den}(h:Rd w M τ cs.toList x):VR w M H ν (.val τ x) (.agg cs):=by
 simp only[VR,V];rw[ah ha];exact⟨cs,rfl,h⟩
theorem K3(hE:EnvTy P E)(hc:Core c σ a.tmps w M ν){t:TypeId}{ps:Array (Nat×Operand)}(ho:o.op= .build t ps){K:jg α}{n:Nat}{e:Ty}(ht:E.ty t=some (.arr n e))
  (h:xd e σ.H n (partsOf σ.ρ ps) (List.replicate n e.zero) [] [] (λl rd ups=>K (.val (.arr n e) l) rd ups)=some r) (hn:fX c σ a o w M ν K r next):o.wp P a w next Q:=by
 have hl:=hE.ty t _ ht
 obtain⟨e',hu,hle⟩:=hl.arr
 obtain⟨i,hi,hs,hz,_⟩:=hl.base
 obtain⟨ie,hie,hes,_⟩:=hle.base
 have hr0:=Rd.arr.1 (Rd.zero w M (.arr n e))
 obtain⟨l',BY,ow,M',cs',hK,iw,D6,KQ,RH,eF,hf⟩:=Da (partsOf σ.ρ ps) (ps.toList.map λ(p:Nat×Operand)=>(p.1,a.eval p.2)) σ.H M (List.replicate n e.zero) (Ty.du (.arr n e)).toArray [] [] _ (.refl _) hc.mem (hc.pr ps.toList)
  (by rw[cQ]) (by rw[je];exact hr0.2.1) hr0.2.2 rfl h
 refine ba (AO ho (run_build w t _ cs' ?_)) (hn _ _ _ _ _ _ _ hK iw (VR.Tx rfl (Rd.arr.2 ⟨KQ,by rw[bL];exact RH,eF⟩)))
 unfold Program.built
 rw[hi,hu]
 simp only[hz,hie,hes,vy]
 exact hf
theorem Ea(hE:EnvTy P E)(hc:Core c σ a.tmps w M ν){t:TypeId}{ps:Array (Nat×Operand)}(ho:o.op= .build t ps){K:jg α}{τ:Ty}(ht:E.ty t=some τ)(hna: ∀n e,τ≠ .arr n e)
  (h:cond τ.isAgg (vu τ σ.H (partsOf σ.ρ ps) τ.zero [] [] (λl rd ups=>K (aby E (partsOf σ.ρ ps) τ l) rd ups)) none=some r) (hn:fX c σ a o w M ν K r next):o.wp P a w next Q:=by
 obtain⟨No,h⟩:=cF h
 have hl:=hE.ty t _ ht
 obtain⟨fs,pl,hu,K2,AN⟩:=hl.places No hna
 obtain⟨i,hi,hs,hz,_⟩:=hl.base
 obtain⟨l',BY,ow,M',cs',hK,iw,D6,eF,hf,RI⟩:=K1 (place:=(pl.toArray[·]?)) (λx n υ y o hf=>by simpa using AN x n υ y o hf) (partsOf σ.ρ ps) (ps.toList.map λ(p:Nat×Operand)=>(p.1,a.eval p.2)) σ.H M τ.zero τ.du.toArray [] [] _ (.refl _) hc.mem (hc.pr ps.toList)
  (Rd.zero w M τ) rfl h
 have hvr:VR w M' (c9 σ.H ow) ν (aby E (partsOf σ.ρ ps) τ l') (.agg cs'):=by
  unfold aby
  split
  ·rename_i n e tV
   cases ki:(partsOf σ.ρ ps).all λp=> !(Nat.beq p.1 n)
   ·exact VR.Tx No eF
   ·have hq:=Ts tV
    show VR w M' (c9 σ.H ow) ν (.KL τ l' n) (.agg cs')
    have hv:=VR.Tx (H:=c9 σ.H ow) (ν:=ν) No eF
    simp only[VR]at hv ⊢
    refine⟨hv,cs',none,rfl,?_⟩
    have hfq:KK τ n=some (.slice e):=by
     unfold gN at hq
     split at hq
     ·rename_i a ha
      rw[ha]
      have:=bA hq
      rw[this]
     ·cases hq
    have h2:=RI n _ hfq ki
    have h3:=I9 hq
    simp only[cJ,nw]at h3
    have h4:=ej (λl=>l[0]?) h2
    simp only[mg,mh,nw]at h4
    rw[ah (show 0<(Ty.slice e).size from Nat.one_pos),ah (show 0<(Ty.slice e).size from Nat.one_pos)]at h4
    rw[h4];exact h3
  ·exact VR.Tx No eF
 refine ba (AO ho (run_build w t _ cs' ?_)) (hn _ _ _ _ _ _ _ hK iw hvr)
 unfold Program.built
 rw[hi,hu]
 have hzc:(cR τ τ.du).cells=τ.du.toArray:=by apply jt;rw[gS]
 simp only[hz,K2,vy,hzc]
 exact hf
theorem Is(hE:EnvTy P E)(hc:Core c σ a.tmps w M ν){t:TypeId}{n:Nat}{ps:Array (Nat×Operand)}(ho:o.op= .buildSlice t n ps){K:jg α}{e:Ty}(ht:E.ty t=some (.slice e)){id:Nat}
  (h:cond (Nat.ble (n*(e.size+1)) 16777216) (rQ σ.H id (.own e []) (xd e σ.H n (partsOf σ.ρ ps) (List.replicate n e.zero) [] [] λl rd ups=>K (.ref id) (id::rd) (ups++[(id,some (.own e l))]))) none=some r)
  (hn:fX c σ a o w M ν K r next):o.wp P a w next Q:=by
 obtain⟨hb,h⟩:=cF h
 obtain⟨bo,h⟩:=lK h
 have hb:=Fh hb
 rw[Nat.mul_add,Nat.mul_one]at hb
 obtain⟨e',hu,hle⟩:=(hE.ty t _ ht).slice
 obtain⟨ie,hie,hes,hz,_⟩:=hle.base
 obtain⟨l',BY,ow,M',cs',hK,iw,D6,KQ,RH,eF,hf⟩:=Da (partsOf σ.ρ ps) (ps.toList.map λ(p:Nat×Operand)=>(p.1,a.eval p.2)) σ.H M (List.replicate n e.zero) (madeCells (cR e e.du).cells (n*e.size)) [] [] _ (.refl _) hc.mem (hc.pr ps.toList)
  (by rw[cQ]) (size_madeCells _ _) (rV.made w M e (aH _)) rfl h
 have ajr:c9 σ.H ow id=none:=D6.none bo
 have xm:=iw.trans (Tr.row iw.mem ajr e' (e:=e) (cs:=cs') (l:=l') (cap:=n) ω (by simp[maxLen];omega) RH eF)
 have dQ:(Instr.buildSlice t n (ps.map λ(i,x)=>(i,a.eval x))).run P w= .ok (.slice (some ⟨w.heap.size,0,none⟩) n n) (w.alloc (.cells cs' e')):=by
  by_cases h0:n*e.size=0
  ·rw[h0]at hf
   have hm0:madeCells (cR e e.du).cells 0=(Array.range 0).map λi:Nat=>(#[]:Array Value)[i%0]! :=by simp[madeCells]
   rw[hm0]at hf
   rw[←vy]at hf
   simp[Instr.buildSlice,run_underlying hu,Go.sizeOf,typeInfo,hie,hes,h0,newRow]at hf ⊢
   simp[hf]
  ·refine run_buildSlice w t e' n _ cs' ie _ hu hie hz (by rw[hes];omega) (by rw[hes];exact h0) ?_
   rw[hes,vy]
   exact hf
 refine ba (AP ho dQ) (hn _ _ _ _ _ (λb=>M' b∨b=w.heap.size) (dr ν id (.slice (some ⟨w.heap.size,0,none⟩) l'.length n)) hK ?_ ?_)
 ·rw[gl];exact xm
 ·simp only[VR]
  exact⟨by rw[gl];show bZ _ id _ id≠none;rw[ay];simp,by simp[dr,KQ]⟩
end VM
end
section
namespace VM
open Go
variable{P:Program}{E:Env}{o:Oper}{a:Act}{w:World}{M:Nat→Prop}{ν:Nat→Value}{σ:St}{c:Ctx}{α:Type}{r:α}{next:Act→World→Prop}{Q:Exit→Act→World→Prop}
def Bnd(o:Option Value)(d l:Int):Prop:=(o=none∧l=d)∨ ∃k,o=some (.int k l)
theorem rX(hc:Core c σ a.tmps w M ν){x:Option Operand}{d:Int}{k:Int→Option α}(h:zi (x.map σ.ρ) d k=some r): ∃l,k l=some r∧Bnd (x.map a.eval) d l:=by
 cases x with
 |none=>exact⟨d,h,.inl ⟨rfl,rfl⟩⟩
 |some x=>
  obtain⟨i,n,hx,h⟩:=nF (h:xb (σ.ρ x) (λ_ x=>k x)=some r)
  have hv:=hc.ev x
  rw[hx]at hv
  exact⟨n,h,.inr ⟨i,by rw[←hv.int];rfl⟩⟩
theorem wA{s:Bool}{len cap:Nat}{lo hi mx:Option Value}{l h m:Int}(yL:Bnd lo 0 l)(MJ:Bnd hi len h)(Rn:Bnd mx cap m)(hm:mx.isNone=true∨hi.isSome=true)
  (h0:0≤l) (h1:l≤h) (h2:h≤m) (h3:m≤cap):(Instr.sliceBounds s len cap lo hi mx).run P w= .ok (l.toNat,h.toNat,m.toNat) w:=by
 have hb: ∀(k:IntKind) (i:Int) (y:Nat) cd,0≤i→i≤y→(Instr.sliceBound (.int k i) y cd).run P w= .ok i.toNat w:=by
  intro k i y cd h1 h2
  simp[Instr.sliceBound,asIntOf,h1,h2]
 have jY:((m.toNat:Nat):Int)=m:=ω
 have hh':((h.toNat:Nat):Int)=h:=ω
 rcases Rn with⟨rfl,rfl⟩|⟨km,rfl⟩
 ·rcases MJ with⟨rfl,rfl⟩|⟨kh,rfl⟩
  ·rcases yL with⟨rfl,rfl⟩|⟨kl,rfl⟩
   ·simp[Instr.sliceBounds]
   ·simp[Instr.sliceBounds,hb kl l len _ h0 h1]
  ·rcases yL with⟨rfl,rfl⟩|⟨kl,rfl⟩
   ·simp[Instr.sliceBounds,hb kh h cap _ ω h2]
   ·simp[Instr.sliceBounds,hb kh h cap _ ω h2,hb kl l h.toNat _ h0 ω]
 ·rcases MJ with⟨rfl,rfl⟩|⟨kh,rfl⟩
  ·simp at hm
  ·rcases yL with⟨rfl,rfl⟩|⟨kl,rfl⟩
   ·simp[Instr.sliceBounds,hb km m cap _ ω h3,hb kh h m.toNat _ ω ω]
   ·simp[Instr.sliceBounds,hb km m cap _ ω h3,hb kh h m.toNat _ ω ω,hb kl l h.toNat _ h0 ω]
theorem It{ρ:Operand→Value}{t:TypeId}{x:Operand}{lo hi mx:Option Operand}(ho:o.op= .slice t x lo hi mx){s:ByteArray}{l h:Int}(hu:P.underlying t=some .string)(hx:ρ x= .string s)
  (yL:Bnd (lo.map ρ) 0 l) (MJ:Bnd (hi.map ρ) s.size h) (Rn:mx.isNone=true) (h0:0≤l) (h1:l≤h) (h2:h≤s.size):(execOp ρ o).run P w= .ok (.value (.string (s.extract l.toNat h.toNat))) w:=by
 have hm:mx=none:=by simpa using Rn
 subst hm
 have hb:=wA (P:=P) (w:=w) (s:=false) yL MJ (.inl ⟨rfl,rfl⟩) (.inl rfl) h0 h1 h2 (dP _)
 simp[execOp,ho,hx,Instr.sliceAt,Instr.slice,run_underlying hu,hb]
theorem vz{ρ:Operand→Value}{t e:TypeId}{x:Operand}{lo hi mx:Option Operand}(ho:o.op= .slice t x lo hi mx){τ:Ty}{ad:Option Addr}{len cap:Nat}{l h m:Int}(hu:P.underlying t=some (.slice e))(hle:kO P τ e)(hx:ρ x= .slice ad len cap)
  (yL:Bnd (lo.map ρ) 0 l) (MJ:Bnd (hi.map ρ) len h) (Rn:Bnd (mx.map ρ) cap m) (hm:(mx.map ρ).isNone=true∨(hi.map ρ).isSome=true) (h0:0≤l) (h1:l≤h) (h2:h≤m) (h3:m≤cap):
  (execOp ρ o).run P w= .ok (.value (.slice (if m.toNat=l.toNat then ad else ad.map (·.add (l.toNat*τ.size))) (h.toNat-l.toNat) (m.toNat-l.toNat))) w:=by
 have hb:=wA (P:=P) (w:=w) (s:=true) yL MJ Rn hm h0 h1 h2 h3
 simp[execOp,ho,hx,Instr.sliceAt,Instr.slice,run_underlying hu,hb,dn hle]
theorem Dc{x:Option Operand}(h:mi x=true)(a:Act): ∃k,x.map a.eval=some (.int k 0):=by
 unfold mi at h
 split at h
 ·rename_i k n
  have:n=0:=by simpa using h
  subst this
  exact⟨k,rfl⟩
 ·cases h
theorem Rd.cut{e:Ty}{ad:Option Addr}{len cap:Nat}{x:List e.den}(h:Rd w M (.slice e) [.slice ad len cap] x){l hh m:Int}(h0:0≤l)(h1:l≤hh)(h2:hh≤m)(hl:hh≤x.length):
  Rd w M (.slice e) [.slice (if m.toNat=l.toNat then ad else ad.map (·.add (l.toNat*e.size))) (hh.toNat-l.toNat) (m.toNat-l.toNat)] (List.drop l.toNat (List.take hh.toNat x)):=by
 simp only[Rd,fu,ec]at h ⊢
 obtain⟨a',nG,hv,hc,hr⟩:=h
 cases hv
 have hlen:List.length (List.drop l.toNat (List.take hh.toNat x))=hh.toNat-l.toNat:=by rw[dC,cc];omega
 refine⟨_,_,by rw[hlen],by rw[hlen];omega,λi hi=> ?_⟩
 rw[hlen]at hi
 obtain⟨b,off,ha,hb,hm,cs,qa,ld⟩:=hr (l.toNat+i) ω
 rw[aj ω]
 refine⟨b,off+l.toNat*e.size,by rw[ha];simp[Addr.add_lit],hb,hm,cs,?_,?_⟩
 ·rw[show off+l.toNat*e.size+i*e.size=off+(l.toNat+i)*e.size from by rw[eE];omega];exact qa
 ·simp only[Fl,Fs,Ft]at ld ⊢
  exact ld
theorem VR.emp{H:Nat→Option bl}{v:Value}:VR w M H ν .emp v↔ ∃ad,v= .slice ad 0 0:=by simp[VR]
theorem XN(hE:EnvTy P E)(hc:Core c σ a.tmps w M ν){t:TypeId}{x:Operand}{lo hi mx:Option Operand}(ho:o.op= .slice t x lo hi mx){K:jg α}{τ:Ty}(ht:E.ty t=some τ)
  (h:rS τ (lo.isNone&&mi hi&&mi mx) (σ.ρ x) (lo.map σ.ρ) (hi.map σ.ρ) (mx.map σ.ρ) σ.H K=some r) (hn:fX c σ a o w M ν K r next):o.wp P a w next Q:=by
 have AI:=hE.ty t τ ht
 have hv:=hc.ev x
 have Tz: ∀(e:Ty) (e':TypeId) (ad:Option Addr) (len cap:Nat),P.underlying t=some (.slice e')→kO P e e'→a.eval x= .slice ad len cap→(lo.isNone&&mi hi&&mi mx)=true→
   ∃ad',(execOp a.eval o).run P w= .ok (.value (.slice ad' 0 0)) w:=by
  intro e e' ad len cap hu hle hx hz
  simp only[bB]at hz
  obtain⟨⟨h1,h2⟩,h3⟩:=hz
  have h1:lo=none:=by simpa using h1
  subst h1
  obtain⟨k2,h2⟩:=Dc h2 a
  obtain⟨k3,h3⟩:=Dc h3 a
  have:=vz (P:=P) (w:=w) ho hu hle hx (l:=0) (h:=0) (m:=0) (.inl ⟨rfl,rfl⟩) (.inr ⟨k2,h2⟩) (.inr ⟨k3,h3⟩) (.inr (by rw[h2];rfl)) ω ω ω ω
  exact⟨_,this⟩
 unfold rS at h
 split at h
 ·rename_i s hx
  obtain⟨hm,h⟩:=cF h
  obtain⟨l,h,yL⟩:=rX hc h
  obtain⟨hh,h,MJ⟩:=rX hc h
  obtain⟨hk,h⟩:=cF h
  rw[Ax]at hk
  obtain⟨h0,h1,h2,h3⟩:=bA hk
  rw[hx]at hv
  exact ba (It ho AI.str hv.str yL MJ (by simpa using hm) h0 h1 h2) (hn _ [] [] _ _ _ _ h (.refl hc.mem) (.mkStr _))
 ·rename_i e hx
  obtain⟨e',hu,hle⟩:=AI.slice
  rw[hx]at hv
  obtain⟨ad,hv⟩:=VR.emp.1 hv
  cases hz:(lo.isNone&&mi hi&&mi mx)
  ·rw[hz]at h
   replace h:cond (mx.map σ.ρ).isNone (zi (lo.map σ.ρ) 0 λl=>zi (hi.map σ.ρ) 0 λh=>cond (kd l h 0 0) (K .emp [] []) none) none=some r:=h
   obtain⟨hm,h⟩:=cF h
   obtain⟨l,h,yL⟩:=rX hc h
   obtain⟨hh,h,MJ⟩:=rX hc h
   obtain⟨hk,hK⟩:=cF h
   rw[Ax]at hk
   obtain⟨h0,h1,h2,h3⟩:=bA hk
   have jY:mx=none:=by simpa using hm
   subst jY
   have:=vz (P:=P) (w:=w) ho hu hle hv yL MJ (.inl ⟨rfl,rfl⟩) (.inl rfl) h0 h1 (m:=0) ω ω
   refine ba this (hn _ [] [] _ _ _ _ hK (.refl hc.mem) (VR.emp.2 ?_))
   rw[show hh.toNat-l.toNat=0 from by omega,show(0:Int).toNat-l.toNat=0 from by omega]
   exact⟨_,rfl⟩
  ·rw[hz]at h
   obtain⟨ad',dQ⟩:=Tz e e' ad 0 0 hu hle hv hz
   exact ba dQ (hn _ [] [] _ _ _ _ h (.refl hc.mem) (VR.emp.2 ⟨_,rfl⟩))
 ·rename_i e iI
  obtain⟨e',hu,hle⟩:=AI.slice
  cases hz:(lo.isNone&&mi hi&&mi mx)
  ·rw[hz]at h
   obtain⟨y,rd,ups,M',h,iw,hV,_⟩:=oy (.refl _) hc.mem hv h
   replace h:cond ((mx.map σ.ρ).isNone||(hi.map σ.ρ).isSome) (zi (lo.map σ.ρ) 0 λl=>zi (hi.map σ.ρ) (List.length y:Int) λh=>zi (mx.map σ.ρ) (List.length y:Int) λm=>
    cond (kd l h m (List.length y:Int)) (K (.val (.slice e) (List.drop l.toNat (List.take h.toNat y))) rd ups) none) none=some r:=h
   obtain⟨hm,h⟩:=cF h
   obtain⟨l,h,yL⟩:=rX hc h
   obtain⟨hh,h,MJ⟩:=rX hc h
   obtain⟨m,h,Rn⟩:=rX hc h
   obtain⟨hk,h⟩:=cF h
   rw[Ax]at hk
   obtain⟨h0,h1,h2,h3⟩:=bA hk
   have hr:=V.slice.1 hV
   have eF:=hr
   simp only[Rd,fu,ec]at eF
   obtain⟨ad,cap,hx,aoR,_⟩:=eF
   rw[hx]at hr
   have jY:(mx.map a.eval).isNone=true∨(hi.map a.eval).isSome=true:=by
    simp only[nu,Option.isNone_map,Option.isSome_map]at hm ⊢;exact hm
   have ajE: ∃m',Bnd (mx.map a.eval) cap m'∧hh≤m'∧m'≤cap:=by
    rcases Rn with⟨h9,_⟩|⟨k,h9⟩
    ·exact⟨cap,.inl ⟨h9,rfl⟩,ω,dP _⟩
    ·exact⟨m,.inr ⟨k,h9⟩,h2,ω⟩
   obtain⟨m',ajE,h4,h5⟩:=ajE
   have dQ:=vz (P:=P) (w:=w) ho hu hle hx yL MJ ajE jY h0 h1 h4 h5
   refine ba dQ (hn _ _ _ _ _ M' _ h iw ?_)
   simp only[VR]
   exact V.slice.2 (hr.cut h0 h1 h4 ω)
  ·rw[hz]at h
   obtain⟨y,rd,h,hS⟩:=C5 hc.mem hv h
   obtain⟨ad,cap,hx,_⟩:=hS
   obtain⟨ad',dQ⟩:=Tz e e' ad _ cap hu hle hx hz
   exact ba dQ (hn _ _ [] _ _ _ _ h (.refl hc.mem) (VR.emp.2 ⟨_,rfl⟩))
 ·cases h
end VM
end
section
namespace VM
open Go
variable{P:Program}{E:Env}{o:Oper}{a:Act}{w:World}{M:Nat→Prop}{ν:Nat→Value}{σ:St}{c:Ctx}{α:Type}{r:α}{next:Act→World→Prop}{Q:Exit→Act→World→Prop}
theorem tq{t ty e:TypeId}{i:TypeInfo}(ht:P.underlying t=some (.slice e))(hi:P.info? e=some i)(base:Option Addr)(n cap:Nat)(h:n≤cap)(a':Option Addr)(cp:Nat):
  (Builtin.append_ #[t,t] ty #[.slice base n cap,.slice a' 0 cp]).run P w= .ok (.slice base n cap) w:=by
 cases a'<;>cases base<;>simp[Builtin.append_,run_underlying ht,Go.sizeOf,typeInfo,hi,Builtin.lenOf,h,Builtin.firstCells,loadCells,loadCellsFrom,storeCells]
theorem Nz{t ty e te:TypeId}{i:TypeInfo}(ht:P.underlying t=some (.slice e))(hi:P.info? e=some i){b n cap m cp:Nat}{a':Addr}{news:List Value}{cs:Array Value}
  (hg:w.heap[b]? =some (.cells cs te (0,0))) (hs:cs.size=cap*i.size) (hl:news.length=m*i.size) (hn: ∀j u,news[j]? =some u→w.cell? (a'.add j)=some u) (h1: ∀u∈news,u.oneCell'=true) (hr:n+m≤cap):
  (Builtin.append_ #[t,t] ty #[.slice (some ⟨b,0,none⟩) n cap,.slice (some a') m cp]).run P w= .ok (.slice (some ⟨b,0,none⟩) (n+m) cap) (w.setRow b (fk cs.toList (n*i.size) news).toArray):=by
 have hf:=run_firstCells_some (P:=P) w i.size m a' m cp news hl hn
 have hm:(n+m)*i.size≤cap*i.size:=kJ _ hr
 rw[eE]at hm
 have H5:=run_storeCells_at (P:=P) b (n*i.size) te news 0 cs w hg ω h1
 simp only[nw]at H5
 simp[Builtin.append_,run_underlying ht,Go.sizeOf,typeInfo,hi,Builtin.lenOf,hr,hf,Addr.add_lit,H5,fk]
theorem ic{args:Array Operand}{t:TypeId}{x y:Operand}{v:Value}{w':World}(ho:o.op= .call {callee:= .builtin .append,args,argTypes:= #[t,t]})(ha:args.toList=[x,y])
  (h:(Builtin.append_ #[t,t] o.type #[a.eval x,a.eval y]).run P w= .ok v w'):(execOp a.eval o).run P w= .ok (.value v) w':=by
 obtain⟨cs,hr⟩:=rU (P:=P) (ρ:=a.eval) ho (w:=w)
 rw[hr]
 have:args.map a.eval= #[a.eval x,a.eval y]:=by apply jt;simp[ha]
 rw[this]
 simp[builtin,h]
theorem FY{H:Nat→Option bl}(hm:Mem c H w M ν){id:Nat}(bo:H id=none){t ty:TypeId}{e':TypeId}{e:Ty}(hu:P.underlying t=some (.slice e'))(hle:kO P e e')
  {xs ys:List e.den} {olds news:List Value} {base:Option Addr} {cap cp:Nat} {a':Addr} (XO:base=none→xs=[]∧cap=0)
  (yL:olds.length=xs.length*e.size) (hro:rV w M e olds xs) (ho: ∀b,base=some b→ ∀j u,olds[j]? =some u→w.cell? (b.add j)=some u)
  (hln:news.length=ys.length*e.size) (hrn:rV w M e news ys) (hn: ∀j u,news[j]? =some u→w.cell? (a'.add j)=some u)
  (hg:cap<xs.length+ys.length) (hs:xs.length+ys.length<zP):
  ∃v w' M' ν',(Builtin.append_ #[t,t] ty #[.slice base xs.length cap,.slice (some a') ys.length cp]).run P w= .ok v w'∧Tr c H w M ν (bZ H id (some (.own e (xs++ys)))) w' M' ν'∧ν' id=v:=by
 obtain⟨i,hi,uq,hz,hby⟩:=hle.base
 have hzs:(cR e e.du).cells.size=e.size:=by rw[←bL,gS,pa]
 have h63:xs.length+ys.length≤maxLen:=by simp only[zP,maxLen]at hs ⊢;omega
 have NA:(xs.length+ys.length)*i.bytes≤140737488355328:=by
  have:(xs.length+ys.length)*i.bytes≤68719476736*2048:=w7 (by simp only[zP]at hs;omega) hby
  omega
 have dQ: ∃nG rest,(Builtin.append_ #[t,t] ty #[.slice base xs.length cap,.slice (some a') ys.length cp]).run P w= .ok (.slice (some ⟨w.heap.size,0,none⟩) (xs.length+ys.length) nG) (w.drew.alloc (.cells (olds++news++rest).toArray e'))∧
   xs.length+ys.length≤nG∧nG≤maxLen∧rest.length=(nG-(xs.length+ys.length))*e.size:=by
  refine⟨grownCap w (xs.length+ys.length) cap e',(Builtin.zeroCells (cR e e.du).cells (grownCap w (xs.length+ys.length) cap e'-(xs.length+ys.length))).toList,?_,grownCap_ge _ _ _ _,grownCap_le_maxLen _ _ _ _ h63,?_⟩
  ·cases base with
   |none=>
    obtain⟨rfl,rfl⟩:=XO rfl
    have ho0:olds=[]:=ta (by rw[yL];simp)
    subst ho0
    have:=run_append_nil (P:=P) w t ty e' i _ hu hi hz a' ys.length cp news (by rw[hln,uq]) hn (by simpa using hg) (by simp only[zP]at hs;omega) (by simp at NA;omega)
    simp only[ck,fT,cW]
    rw[this]
    congr 2
    apply ej (λz=>Obj.cells z e' (0,0))
    apply jt;simp
   |some b=>
    have:=run_append_grow (P:=P) w t ty e' i _ hu hi hz b xs.length cap olds (by rw[yL,uq]) (ho b rfl) a' ys.length cp news (by rw[hln,uq]) hn hg (by simp only[zP]at hs;omega) (growslice_fits hg NA)
    rw[this]
    congr 2
    apply ej (λz=>Obj.cells z e' (0,0))
    apply jt;simp
  ·rw[bL,size_zeroCells,hzs]
 obtain⟨nG,rest,dQ,Jf,hc2,aoW⟩:=dQ
 have hlen:(xs++ys).length=xs.length+ys.length:=aM
 have hd:=Tr.drew hm
 have hon:(olds++news).length=(xs++ys).length*e.size:=by rw[aM,yL,hln,hlen,eE]
 have RJ:=Tr.row hd.mem bo e' (e:=e) (cs:=(olds++news++rest).toArray) (l:=xs++ys) (cap:=nG) (by rw[hlen];exact Jf) hc2
  (by rw[je,aM,hon,aoW,hlen,←eE];congr 1;omega)
  (rV.more ((hro.append yL hrn).cm hd.cm) (by rw[hon];exact aH _))
 refine⟨_,_,_,_,dQ,hd.trans RJ,?_⟩
 rw[←hlen];simp[dr]
theorem U8(hE:EnvTy P E)(hc:Core c σ a.tmps w M ν){args:Array Operand}{ts:Array TypeId}{t t':TypeId}{x y:Operand}(ho:o.op= .call {callee:= .builtin .append,args,argTypes:=ts})(ha:args.toList=[x,y])(hts:ts.toList=[t,t']){K:jg α}{e:Ty}
  (ht:E.ty t=some (.slice e)) {id:Nat} (h:cond (Nat.beq t t') (rQ σ.H id (.own e []) (Ni id e (σ.ρ x) (σ.ρ y) σ.H K)) none=some r) (hn:fX c σ a o w M ν K r next):o.wp P a w next Q:=by
 obtain⟨htt,h1⟩:=cF h
 clear h
 have htt:=fR htt
 subst htt
 obtain⟨bo,h⟩:=lK h1
 clear h1
 have auV:ts= #[t,t]:=by apply jt;simpa using hts
 subst auV
 obtain⟨e',hu,hle⟩:=(hE.ty t _ ht).slice
 obtain⟨i,hi,uq,hz,hby⟩:=hle.base
 have K0:=hc.ev x
 unfold Ni at h
 obtain⟨ys,rd,h,hS⟩:=C5 hc.mem (hc.ev y) h
 have ajH:(ys=[]∧ ∃a' cp,a.eval y= .slice a' 0 cp)∨(ys≠[]∧ ∃a' cp news,a.eval y= .slice (some a') ys.length cp∧news.length=ys.length*e.size∧(∀j u,news[j]? =some u→w.cell? (a'.add j)=some u)∧rV w M e news ys∧ ∀u∈news,u.oneCell'=true):=by
  by_cases hy:ys=[]
  ·left
   obtain⟨a',cp,hv,_⟩:=hS
   exact⟨hy,a',cp,by rw[hv,hy];rfl⟩
  ·right
   obtain⟨b,off,cp,news,hv,hl,qa,ld,h1⟩:=hS.cells hy
   exact⟨hy,⟨b,off,none⟩,cp,news,hv,hl,λj u hj=>by rw[Addr.add_lit];exact qa j u hj,ld,h1⟩
 split at h
 ·
  rename_i hx
  rw[hx]at K0
  obtain⟨ad,K0⟩:=VR.emp.1 K0
  obtain⟨TA,h⟩:=cF h
  rw[FG]at TA
  have TA:=bA TA
  rcases ajH with⟨rfl,a',cp,D7⟩|⟨hy,a',cp,news,D7,hl,qa,ld,h1⟩
  ·refine ba (ic ho ha (by rw[K0,D7];exact tq hu hi ad 0 0 (aH _) a' cp)) (hn _ _ _ _ _ _ _ h (Tr.nothing hc.mem bo e ad) ?_)
   simp only[VR]
   exact⟨by show bZ _ id _ id≠none;rw[ay];simp,by simp[dr]⟩
  ·have NB:0<ys.length:=o7.2 hy
   obtain⟨v,w',M',ν',dQ,iw,hv⟩:=FY (P:=P) (ty:=o.type) hc.mem bo hu hle (xs:=[]) (ys:=ys) (olds:=[]) (news:=news) (base:=ad) (cap:=0) (cp:=cp) (a':=a') (λ_=>⟨rfl,rfl⟩) (by simp) (λi hi=>absurd hi (by simp)) (λ_ _ j u hj=>by simp at hj)
    hl ld qa (by simpa using NB) (by simpa using TA)
   refine ba (ic ho ha (by rw[K0,D7];exact dQ)) (hn _ _ _ _ _ _ _ h iw ?_)
   simp only[VR]
   exact⟨by show bZ _ id _ id≠none;rw[ay];simp,hv.symm⟩
 ·
  rename_i j hx
  rw[hx]at K0
  simp only[VR]at K0
  obtain⟨_,K0⟩:=K0
  split at h
  ·rename_i e1 l hj
   obtain⟨e2,h⟩:=bG h
   cases e2
   obtain⟨TA,h⟩:=cF h
   rw[FG]at TA
   have TA:l.length+ys.length<zP:=bA TA
   have iI:id≠j:=λe=>by rw[e,hj]at bo;cases bo
   have qb:bZ σ.H j (some .gone) id=none:=by rw[az _ _ iI];exact bo
   have Ro:=Tr.gone hc.mem j
   have mX:=hc.mem.ll j _ hj
   simp only[ER]at mX
   rcases mX with⟨rfl,ad,hjv⟩|⟨b,cs,te,cap,hjv,hg,hM,Xd,hl,FK,hs,hr⟩
   ·rw[hjv]at K0
    rcases ajH with⟨rfl,a',cp,D7⟩|⟨hy,a',cp,news,D7,hl,qa,ld,h1⟩
    ·refine ba (ic ho ha (by rw[K0,D7];exact tq hu hi ad 0 0 (aH _) a' cp)) (hn _ _ _ _ _ _ _ h (Ro.trans (Tr.nothing Ro.mem qb e ad)) ?_)
     simp only[VR]
     exact⟨by show bZ _ id _ id≠none;rw[ay];simp,by simp[dr]⟩
    ·have NB:0<ys.length:=o7.2 hy
     obtain⟨v,w',M',ν',dQ,iw,hv⟩:=FY (P:=P) (ty:=o.type) Ro.mem qb hu hle (xs:=[]) (ys:=ys) (olds:=[]) (news:=news) (base:=ad) (cap:=0) (cp:=cp) (a':=a') (λ_=>⟨rfl,rfl⟩) (by simp) (λi hi=>absurd hi (by simp)) (λ_ _ j u hj=>by simp at hj)
      hl ld qa (by simpa using NB) (by simpa using TA)
     refine ba (ic ho ha (by rw[K0,D7];exact dQ)) (hn _ _ _ _ _ _ _ h (Ro.trans iw) ?_)
     simp only[VR]
     exact⟨by show bZ _ id _ id≠none;rw[ay];simp,hv.symm⟩
   ·rw[hjv]at K0
    have Ja:cs.toList.length=cap*e.size:=by rw[bL,hs]
    have H8:l.length*e.size≤cap*e.size:=kJ _ hl
    rcases ajH with⟨rfl,a',cp,D7⟩|⟨hy,a',cp,news,D7,hln,qa,ld,h1⟩
    ·refine ba (ic ho ha (by rw[K0,D7];exact tq hu hi _ _ cap hl a' cp)) (hn _ _ _ _ _ M (dr ν id (ν j)) h ?_ ?_)
     ·refine Tr.rename hc.mem hj bo (.inr rfl) ?_
      rw[cH]
      exact hc.mem.ll j _ hj
     ·simp only[VR]
      exact⟨by show bZ _ id _ id≠none;rw[ay];simp,by simp[dr,hjv]⟩
    ·by_cases AQ:l.length+ys.length≤cap
     ·have hmul:(l.length+ys.length)*e.size≤cap*e.size:=kJ _ AQ
      rw[eE]at hmul
      have dQ:=Nz (P:=P) (ty:=o.type) hu hi (w:=w) (b:=b) (n:=l.length) (cap:=cap) (m:=ys.length) (cp:=cp) (a':=a') (news:=news) (cs:=cs) hg (by rw[hs,uq]) (by rw[hln,uq]) qa h1 AQ
      rw[uq]at dQ
      have abE:fk cs.toList (l.length*e.size) news=(cs.toList.take (l.length*e.size)++news)++cs.toList.drop (l.length*e.size+news.length):=rfl
      have hold:rV w M e (cs.toList.take (l.length*e.size)) l:=rV.take hr (aH _)
      have htl:(cs.toList.take (l.length*e.size)).length=l.length*e.size:=by rw[cc];omega
      have aim:rV w M e (fk cs.toList (l.length*e.size) news) (l++ys):=by
       rw[abE]
       refine rV.more (hold.append htl ld) ?_
       rw[aM,aM,htl,hln,eE];exact aH _
      have NC:(fk cs.toList (l.length*e.size) news).length=cap*e.size:=by rw[gD ω];exact Ja
      have abN:Tr c σ.H w M ν (bZ σ.H j (some (.own e l))) (w.setRow b (fk cs.toList (l.length*e.size) news).toArray) M ν:=by
       refine Tr.write (e':= .own e l) hc.mem hj trivial trivial (.refl _) (by rw[hjv];simp[fI];omega) hg λRl hk B4=> ?_
       simp only[ER]
       refine .inr ⟨b,_,te,cap,hjv,setRow_heap w b cs _ te _ hg,B4,Xd,hl,FK,by rw[je];exact NC,λk FV=> ?_⟩
       have:=(aim k (by rw[aM];omega)).cm hk
       rw[Fb FV]at this
       exact this
      rw[B2 hj]at abN
      have xm:Tr c σ.H (w.setRow b (fk cs.toList (l.length*e.size) news).toArray) M ν (bZ (bZ σ.H j (some .gone)) id (some (.own e (l++ys)))) (w.setRow b (fk cs.toList (l.length*e.size) news).toArray) M (dr ν id (.slice (some ⟨b,0,none⟩) (l++ys).length cap)):=by
       refine Tr.rename abN.mem hj bo (.inr (by rw[hjv];simp[fI])) ?_
       simp only[ER]
       refine .inr ⟨b,_,te,cap,rfl,setRow_heap w b cs _ te _ hg,hM,Xd,by rw[aM];exact AQ,FK,by rw[je];exact NC,(aim.cm abN.cm)⟩
      refine ba (ic ho ha (by rw[K0,D7];exact dQ)) (hn _ _ _ _ _ _ _ h (abN.trans xm) ?_)
      simp only[VR]
      exact⟨by show bZ _ id _ id≠none;rw[ay];simp,by simp[dr]⟩
     ·obtain⟨v,w',M',ν',dQ,iw,hv⟩:=FY (P:=P) (ty:=o.type) Ro.mem qb hu hle (xs:=l) (ys:=ys) (olds:=cs.toList.take (l.length*e.size)) (news:=news) (base:=some ⟨b,0,none⟩) (cap:=cap) (cp:=cp) (a':=a') (λh=>by cases h)
       (by rw[cc];omega) (rV.take hr (aH _)) (λb' fg k u hk=>by
        cases fg
        rw[Addr.add_lit,cell_of hg]
        rw[mg]at hk
        split at hk
        ·rw[←gP];simpa using hk
        ·cases hk)
       hln ld qa ω TA
      refine ba (ic ho ha (by rw[K0,D7];exact dQ)) (hn _ _ _ _ _ _ _ h (Ro.trans iw) ?_)
      simp only[VR]
      exact⟨by show bZ _ id _ id≠none;rw[ay];simp,hv.symm⟩
  ·cases h
 ·cases h
end VM
end
section
namespace VM
open Go
variable{P:Program}{E:Env}{o:Oper}{a:Act}{w:World}{M:Nat→Prop}{ν:Nat→Value}{σ:St}{c:Ctx}{α:Type}{r:α}{next:Act→World→Prop}{Q:Exit→Act→World→Prop}
def ur:{m:AM}→{ms:List AM}→HP (m::ms)→m.den
 |_,[],x=>x
 |_,_::_,x=>x.1
def yM:{m:AM}→{ms:List AM}→HP (m::ms)→HP ms
 |_,[],_=>()
 |_,_::_,x=>x.2
def AM.iJ:AM→Bool
 | .io _| .lo _=>true
 |_=>false
def AM.abO:AM→Bool
 | .fn _ _| .jr _=>true
 |_=>false
def A1(w:World)(M:Nat→Prop):(m:AM)→m.den→Value→Prop
 | .v τ,x,v=>V w M τ v x
 | .own e,x,v=>ER w M v (.own e x)
 | .io τ,x,v=>ER w M v (.obj τ x)
 | .fn f τ,x,v=>VR w M (λ_=>none) (λ_=>undef) (.Nd f (qA τ x)) v
 | .ptr τ,x,v=>ER w M v (.obj τ x)
 | .jr τ,x,v=>VR w M (λ_=>none) (λ_=>undef) (.rP τ x) v
 | .lo e,x,v=>ER w M v (.own e x)
def jM(w:World)(M:Nat→Prop):(ms:List AM)→HP ms→List Value→Prop
 |[],_,vs=>vs=[]
 |_::ms,x,vs=> ∃v MK,vs=v::MK∧A1 w M _ (ur x) v∧jM w M ms (yM x) MK
def dh:AM→Value→List Nat
 | .own _,v| .io _,v| .ptr _,v| .lo _,v=>(fI v).toList
 |_,_=>[]
def dX:List AM→List Value→List Nat
 |m::ms,v::vs=>dh m v++dX ms vs
 |_,_=>[]
def fx:List AM→List Value→List Value
 |m::ms,v::vs=>if m.iJ then v::fx ms vs else fx ms vs
 |_,_=>[]
def nH:List AM→List AM
 | .io τ::ms=> .io τ::nH ms
 | .lo e::ms=> .lo e::nH ms
 |_::ms=>nH ms
 |[]=>[]
def RR(w:World)(M:Nat→Prop):(ms:List AM)→HP ms→List Value→List Value→Prop
 |[],_,vs,ps=>vs=[]∧ps=[]
 |m::ms,x,vs,ps=>(∃p H9,m.iJ=true∧ps=p::H9∧A1 w M m (ur x) p∧RR w M ms (yM x) vs H9)∨
  (∃v MK,m.iJ=false∧m.abO=false∧vs=v::MK∧A1 w M m (ur x) v∧RR w M ms (yM x) MK ps)
def bK:List AM→List Value→List Value→List Nat
 |[],_,_=>[]
 |m::ms,vs,ps=>if m.iJ then dh m (ps.headD undef)++bK ms vs ps.tail else dh m (vs.headD undef)++bK ms vs.tail ps
def Ty.flat:Ty→Bool
 | .slice _=>false
 | .pair a b=>a.flat&&b.flat
 | .arr _ e=>e.flat
 |_=>true
def AM.flat:AM→Bool
 | .v τ| .io τ| .own τ| .ptr τ| .lo τ=>τ.flat
 | .fn _ _| .jr _=>false
def xr(vs:List Value):Value:=if h:vs.length=1 then vs[0]else .tuple vs.toArray
structure Left(w:World)(M0:Nat→Prop)(hs:List Nat)(w':World)(M':Nat→Prop):Prop where
 sub: ∀b,M0 b→M' b
 FJ: ∀b,M' b→b<w'.heap.size
 less: ∀b,b<w.heap.size→M' b→M0 b∨b∈hs
 frame: ∀b,b<w.heap.size→b∉hs→w'.heap[b]? =w.heap[b]?
 size:w.heap.size≤w'.heap.size
 os:w'.os=w.os
 tape:w'.tape=w.tape
 output:w'.output=w.output
def ND(P:Program)(f:FuncId)(args:Array Value)(w:World)(R:Value→World→Prop):Prop:=
 ∀(o:Oper) (a:Act) (next:Act→World→Prop) (Q:Exit→Act→World→Prop),(∀v w',R v w'→next (a.put o.dst v) w')→o.upon P a next Q ((callFunc f args).run P w)
theorem ND.mono{f:FuncId}{args:Array Value}{R R':Value→World→Prop}(h:ND P f args w R)(hr: ∀v w',R v w'→R' v w'):ND P f args w R':=
 λo a next Q hn=>h o a next Q λv w' hv=>hn v w' (hr v w' hv)
theorem tW{f:FuncId}{fn:Func}{args:Array Value}{R:Value→World→Prop}(hf:P.funcs[f]? =some fn)(hn:(fn.name== "runtime.NumGoroutine")=false)(hb:fn.body.isNone=false)
  (h:Calls P f args w λe w'=> ∃v,e= .returned v∧R v w'):ND P f args w R:=by
 intro o a next Q xt
 have hn': ¬fn.name= "runtime.NumGoroutine" :=by simpa using hn
 have fg: ¬fn.body=none:=λe=>by rw[e]at hb;cases hb
 have:(callFunc f args).run P w= .ok (.enter f args) w:=by simp[callFunc,hf,hn',fg]
 rw[this,Oper.upon_enter]
 refine Calls.mono h ?_
 rintro e w' ⟨v,rfl,hR⟩
 exact xt v w' hR
theorem Iu{f:FuncId}{args:Array Value}{R:Value→World→Prop}{v:Value}{w':World}(h:(callFunc f args).run P w= .ok (.value v) w')(hR:R v w'):ND P f args w R:=by
 intro o a next Q xt
 rw[h,Oper.upon_value]
 exact xt v w' hR
structure ix(P:Program)(f:FuncId)(S:lI):Prop where
 quiet:S.quiet=true→S.res.all AM.flat=true
 ios:nH S.args=nH S.res
 call: ∀(M0:Nat→Prop) (w:World) (vs:List Value) (x:HP S.args) (y:HP S.res),(∀b,M0 b→b<w.heap.size)→
  jM w (λb=>M0 b∨b∈dX S.args vs) S.args x vs→(dX S.args vs).Nodup→(∀b∈dX S.args vs,¬M0 b)→S.run x=some y→
  ND P f vs.toArray w λv w'=> ∃us M',v=xr us∧RR w' M' S.res y us (fx S.args vs)∧Left w M0 (dX S.args vs) w' M'∧
   (bK S.res us (fx S.args vs)).Nodup∧ ∀b∈bK S.res us (fx S.args vs),¬M0 b
theorem Rd.flat{w:World}{M M':Nat→Prop}: ∀{τ:Ty} {cs:List Value} {x:τ.den},τ.flat=true→Rd w M τ cs x→Rd w M' τ cs x
 | .int _,_,_,_,h| .bool,_,_,_,h| .str,_,_,_,h| .unit,_,_,_,h=>h
 | .slice _,_,_,hf,_=>by simp[Ty.flat]at hf
 | .pair a b,_,_,hf,h=>by
  simp only[Ty.flat,bB]at hf
  simp only[Rd]at h ⊢
  obtain⟨c1,c2,rfl,h1,h2⟩:=h
  exact⟨c1,c2,rfl,h1.flat hf.1,h2.flat hf.2⟩
 | .arr n e,_,x,hf,h=>by
  simp only[Ty.flat]at hf
  simp only[Rd]at h ⊢
  obtain⟨hn,UW,hc,rfl,hr⟩:=h
  exact⟨hn,UW,hc,rfl,λi hi nD=>(hr i hi nD).flat hf⟩
theorem A1.flat{w:World}{M M':Nat→Prop}(hM: ∀b,M b→M' b){m:AM}{x:m.den}{v:Value}(hf:m.flat=true)(h:A1 w M m x v):A1 w M' m x v:=by
 cases m with
 |v τ=>
  simp only[A1,V,AM.flat]at h hf ⊢
  split
  ·rename_i ha;rw[ah ha]at h;obtain⟨cs,h1,h⟩:=h;exact⟨cs,h1,h.flat hf⟩
  ·rename_i ha;rw[aj ha]at h;exact h.flat hf
 |own e=>
  simp only[A1,ER,AM.flat]at h hf ⊢
  rcases h with h|⟨b,cs,t,cap,h1,h2,h3,h4,h5,h6,h7,h8⟩
  ·exact .inl h
  ·exact .inr ⟨b,cs,t,cap,h1,h2,hM b h3,h4,h5,h6,h7,λi hi=>(h8 i hi).flat hf⟩
 |io τ=>
  simp only[A1,ER,AM.flat]at h hf ⊢
  obtain⟨b,cs,t,h1,h2,h3,h4⟩:=h
  exact⟨b,cs,t,h1,h2,hM b h3,h4.flat hf⟩
 |fn f τ=>simp[AM.flat]at hf
 |jr τ=>simp[AM.flat]at hf
 |lo e=>
  simp only[A1,ER,AM.flat]at h hf ⊢
  rcases h with h|⟨b,cs,t,cap,h1,h2,h3,h4,h5,h6,h7,h8⟩
  ·exact .inl h
  ·exact .inr ⟨b,cs,t,cap,h1,h2,hM b h3,h4,h5,h6,h7,λi hi=>(h8 i hi).flat hf⟩
 |ptr τ=>
  simp only[A1,ER,AM.flat]at h hf ⊢
  obtain⟨b,cs,t,h1,h2,h3,h4⟩:=h
  exact⟨b,cs,t,h1,h2,hM b h3,h4.flat hf⟩
theorem RR.flat{w:World}{M M':Nat→Prop}(hM: ∀b,M b→M' b): ∀{ms:List AM} {x:HP ms} {vs ps:List Value},ms.all AM.flat=true→RR w M ms x vs ps→RR w M' ms x vs ps
 |[],_,_,_,_,h=>h
 |m::ms,x,vs,ps,hf,h=>by
  simp only[Ao,bB]at hf
  simp only[RR]at h ⊢
  rcases h with⟨p,H9,h1,h2,h3,h4⟩|⟨v,MK,h1,h2,h3,h4,h5⟩
  ·exact .inl ⟨p,H9,h1,h2,h3.flat hM hf.1,RR.flat hM hf.2 h4⟩
  ·exact .inr ⟨v,MK,h1,h2,h3,h4.flat hM hf.1,RR.flat hM hf.2 h5⟩
theorem A1.xu{w w':World}{M M':Nat→Prop}(k:fi w M w' M'){m:AM}{x:m.den}{v:Value}(hm: ∀b∈dh m v,w'.heap[b]? =w.heap[b]? ∧M' b)(h:A1 w M m x v):A1 w' M' m x v:=by
 cases m with
 |v τ=>exact V.cm k h
 |own e=>
  simp only[A1]at h ⊢
  exact ER.cm k (λ_ b hb=>hm b (by simp[dh,hb])) h
 |io τ=>
  simp only[A1]at h ⊢
  exact ER.cm k (λ_ b hb=>hm b (by simp[dh,hb])) h
 |fn f τ=>exact VR.cm k (.refl _ _) h
 |jr τ=>exact VR.cm k (.refl _ _) h
 |lo e=>
  simp only[A1]at h ⊢
  exact ER.cm k (λ_ b hb=>hm b (by simp[dh,hb])) h
 |ptr τ=>
  simp only[A1]at h ⊢
  exact ER.cm k (λ_ b hb=>hm b (by simp[dh,hb])) h
theorem jM.xu{w w':World}{M M':Nat→Prop}(k:fi w M w' M'): ∀{ms:List AM} {x:HP ms} {vs:List Value},(∀b∈dX ms vs,w'.heap[b]? =w.heap[b]? ∧M' b)→jM w M ms x vs→jM w' M' ms x vs
 |[],_,_,_,h=>h
 |m::ms,x,vs,hm,h=>by
  simp only[jM]at h ⊢
  obtain⟨v,MK,rfl,h1,h2⟩:=h
  exact⟨v,MK,rfl,h1.xu k (λb hb=>hm b (by simp[dX,hb])),jM.xu k (λb hb=>hm b (by simp[dX,hb])) h2⟩
theorem RR.xu{w w':World}{M M':Nat→Prop}(k:fi w M w' M'): ∀{ms:List AM} {x:HP ms} {us ps:List Value},(∀b∈bK ms us ps,w'.heap[b]? =w.heap[b]? ∧M' b)→RR w M ms x us ps→RR w' M' ms x us ps
 |[],_,_,_,_,h=>h
 |m::ms,x,us,ps,hm,h=>by
  simp only[RR]at h ⊢
  rcases h with⟨p,H9,h1,rfl,h2,h3⟩|⟨v,K4,h1,h2,rfl,h3,h4⟩
  ·simp only[bK,h1,gB,uy,uz,bk]at hm
   exact .inl ⟨p,H9,h1,rfl,h2.xu k (λb hb=>hm b (.inl hb)),RR.xu k (λb hb=>hm b (.inr hb)) h3⟩
  ·simp only[bK,h1,jd,fc,uy,uz,bk]at hm
   exact .inr ⟨v,K4,h1,h2,rfl,h3.xu k (λb hb=>hm b (.inl hb)),RR.xu k (λb hb=>hm b (.inr hb)) h4⟩
theorem EI{H:Nat→Option bl}(hm:Mem c H w M ν){a:bI}{v:Value}(hv:VR w M H ν a v){τ:Ty}{k:τ.den→List Nat→ja→Option α}{r:α}(h:mw true a H τ k=some r):
  ∃y rd ups,k y rd ups=some r∧((ups=[]∧V w M τ v y)∨ ∃id e l,ups=[(id,some (.o8 e l))]∧H id=some (.own e l)∧
   ∀M',(∀b,M' b↔(M b∧fI (ν id)≠some b))→V w M' τ v y):=by
 unfold mw at h
 split at h
 ·obtain⟨e,h⟩:=bG h
  subst e
  simp only[VR]at hv
  exact⟨_,[],[],h,.inl ⟨rfl,hv⟩⟩
 ·obtain⟨e,h⟩:=bG h
  subst e
  simp only[VR]at hv
  exact⟨_,[],[],h,.inl ⟨rfl,hv.1⟩⟩
 ·split at h
  ·rename_i e k' _
   simp only[VR]at hv
   obtain⟨a,rfl⟩:=hv
   refine⟨[],[],[],h,.inl ⟨rfl,V.slice.2 ?_⟩⟩
   simp only[Rd]
   exact⟨a,0,rfl,aH _,λi hi=>absurd hi (by simp)⟩
  ·cases h
 ·rename_i id
  simp only[VR]at hv
  obtain⟨_,rfl⟩:=hv
  split at h
  ·rename_i e l bo
   obtain⟨e',h⟩:=bG h
   subst e'
   refine⟨_,_,_,h,.inr ⟨id,e,l,rfl,bo,λM' hM'=> ?_⟩⟩
   obtain⟨M2,_,hV,KW⟩:=Tr.freeze hm bo
   have:M'=M2:=by funext b;exact propext ((hM' b).trans (KW b).symm)
   rw[this];exact hV
  ·rename_i e l bo
   obtain⟨e',h⟩:=bG h
   subst e'
   have:=hm.ll id _ bo
   simp only[ER]at this
   exact⟨_,_,_,h,.inl ⟨rfl,V.slice.2 this.1⟩⟩
  ·cases h
 ·cases h
theorem XP{H:Nat→Option bl}(hm:Mem c H w M ν): ∀{a:Ty} {x:bI} {v:Value} {k:a.den→List Nat→ja→Option α} {r:α},VR w M H ν x v→CZ x H a k=some r→
  ∃y rd ups,k y rd ups=some r∧(ups=[]→VR w M (λ_=>none) (λ_=>undef) (C0 a y) v):=by
 intro a x v k r hv h
 unfold CZ at h
 split at h
 ·rename_i a k
  split at h
  ·rename_i υ z
   obtain⟨e1,h⟩:=bG h
   subst e1
   refine⟨_,_,_,h,λ_=> ?_⟩
   simp only[C0,VR]at hv ⊢
   exact hv
  ·cases h
 ·rename_i k0 uN
  obtain⟨y,rd,ups,h,hy⟩:=EI hm hv h
  refine⟨y,rd,ups,h,λhu=> ?_⟩
  rcases hy with⟨_,hy⟩|⟨_,_,_,h3,_⟩
  ·have:C0 _ y= .val _ y:=by
    unfold C0
    split
    ·exact(uN _ _ rfl HEq.rfl).elim
    ·rfl
   rw[this]
   simp only[VR];exact hy
  ·rw[hu]at h3;cases h3
theorem FZ{H:Nat→Option bl}(hm:Mem c H w M ν): ∀{τ:Ty} {qK:List bI} {vs:List Value} {k:τ.den→List Nat→ja→Option α} {r:α},ju w M H ν qK vs→rR H τ qK k=some r→
  ∃x rd ups,k x rd ups=some r∧(ups=[]→ju w M (λ_=>none) (λ_=>undef) (qA τ x) vs)
 | .unit,[],[],k,r,_,h=>⟨(),[],[],h,λ_=>by simp[qA,ju]⟩
 | .pair a b,x::xs,v::vs,k,r,hv,h=>by
  simp only[ju]at hv
  unfold rR at h
  obtain⟨y,rd,ups,h,hy⟩:=XP hm hv.1 h
  obtain⟨ys,BY,ow,h,hys⟩:=FZ hm hv.2 h
  refine⟨(y,ys),_,_,h,λhu=> ?_⟩
  have h1:ups=[]:=(M9.1 hu).1
  have h2:ow=[]:=(M9.1 hu).2
  simp only[qA,ju]
  exact⟨hy h1,hys h2⟩
 | .unit,[],_::_,_,_,hv,_=>by simp[ju]at hv
 |_,_::_,[],_,_,hv,_=>by simp[ju]at hv
 | .unit,_::_,_,_,_,_,h=>by simp[rR]at h
 | .pair _ _,[],_,_,_,_,h=>by simp[rR]at h
 | .int _,_,_,_,_,_,h| .bool,_,_,_,_,_,h| .str,_,_,_,_,_,h| .slice _,_,_,_,_,_,h| .arr _ _,_,_,_,_,_,h=>by simp[rR]at h
end VM
end
section
namespace VM
open Go
variable{P:Program}{E:Env}{o:Oper}{a:Act}{w:World}{M:Nat→Prop}{ν:Nat→Value}{σ:St}{c:Ctx}{α:Type}{r:α}{next:Act→World→Prop}{Q:Exit→Act→World→Prop}
def keys{β:Type}(l:List (Nat×β)):List Nat:=l.map (·.1)
theorem lM{i:Nat}: ∀{ups:ja} {H:Nat→Option bl},i∉keys ups→c9 H ups i=H i
 |[],_,_=>rfl
 |u::r,H,h=>by
  simp only[keys,bR,aZ,not_or]at h
  show c9 (bZ H u.1 u.2) r i=_
  rw[lM h.2,az _ _ h.1]
theorem AS(u:Nat×Option bl)(b:ja)(hb:u.1∉keys b): ∀(a:ja) (H:Nat→Option bl),c9 H (a++u::b)=bZ (c9 H (a++b)) u.1 u.2
 |[],H=>by
  show c9 (bZ H u.1 u.2) b=bZ (c9 H b) u.1 u.2
  induction b generalizing H with
  |nil=>rfl
  |cons v b ih=>
   simp only[keys,bR,aZ,not_or]at hb
   show c9 (bZ (bZ H u.1 u.2) v.1 v.2) b=bZ (c9 (bZ H v.1 v.2) b) u.1 u.2
   rw[←ih hb.2]
   congr 1
   funext i
   by_cases h1:i=v.1
   ·subst h1;rw[ay,az _ _ (eU hb.1),ay]
   ·by_cases h2:i=u.1
    ·subst h2;rw[az _ _ h1,ay,ay]
    ·rw[az _ _ h1,az _ _ h2,az _ _ h2,az _ _ h1]
 |v::a,H=>AS u b hb a (bZ H v.1 v.2)
def IoE(H:Nat→Option bl)(q:Nat×AM):Prop:=(∃(τ:Ty) (x:τ.den),q.2= .io τ∧H q.1=some (.obj τ x))∨ ∃(e:Ty) (l:List e.den),q.2= .lo e∧H q.1=some (.own e l)
theorem IoE.some{H:Nat→Option bl}{q:Nat×AM}(h:IoE H q):H q.1≠none:=by
 rcases h with⟨_,x,_,h⟩|⟨e,l,_,h⟩<;>rw[h]<;>simp
structure jN(c:Ctx)(w:World)(M:Nat→Prop)(ν:Nat→Value)(H0 H1 Hq:Nat→Option bl)(M1:Nat→Prop)(uo uf:ja)(io:List (Nat×AM))(hs:List Nat):Prop where
 mem:Mem c H1 w M1 ν
 NF:Mem c Hq w M ν
 cm:fi w M w M1
 ext: ∀i,i∉keys io→c9 H0 (uo++uf) i=H1 i
 XQ: ∀i,i∉keys io→c9 H0 uo i=Hq i
 U9: ∀q∈io,H1 q.1=some .gone∧Hq q.1=some .gone∧IoE H0 q
 ion:(keys io).Nodup
 ks: ∀i∈keys (uo++uf),∀e l,H1 i≠some (.own e l)
 ksn: ∀i∈keys (uo++uf),i∉keys io∧ ∃e l,H0 i=some (.own e l)
 fz:Fz Hq H1
 uov: ∀u∈uo,u.2=some .gone
 ufv: ∀u∈uf,∃e l,u.2=some (.o8 e l)∧H0 u.1=some (.own e l)
 nd:hs.Nodup
 hM: ∀b∈hs,M1 b
 NG: ∀b∈hs,c.B≤b∨c.may b
 none: ∀b∈hs,∀i e,Hq i=some e→e.mut→fI (ν i)≠some b
 iob: ∀b∈hs,c.M0 b→ ∃q∈io,fI (ν q.1)=some b
 same: ∀i,i∉keys (uo++uf)→i∉keys io→H1 i=H0 i
theorem jN.start{H:Nat→Option bl}(hm:Mem c H w M ν):jN c w M ν H H H M [] [] [] []:=
 ⟨hm,hm,.refl w M,λ_ _=>rfl,λ_ _=>rfl,λq hq=>by simp at hq,by simp[keys],λi hi=>by simp[keys]at hi,λi hi=>by simp[keys]at hi,.refl H,λu hu=>by simp at hu,λu hu=>by simp at hu,by simp,λb hb=>by simp at hb,λb hb=>by simp at hb,λb hb=>by simp at hb,λb hb=>by simp at hb,λ_ _ _=>rfl⟩
theorem Fz.abP{H H1:Nat→Option bl}(h:Fz H H1){i:Nat}{e:Ty}{l:List e.den}(hi:H1 i=some (.own e l)):H i=some (.own e l):=by
 rcases h i with h'|⟨e',l',_,h'⟩
 ·rw[←h',hi]
 ·rw[hi]at h';cases h'
theorem Fz.aoZ{H H1:Nat→Option bl}(h:Fz H H1){i:Nat}{e:Ty}{l:e.den}(hi:H1 i=some (.obj e l)):H i=some (.obj e l):=by
 rcases h i with h'|⟨e',l',_,h'⟩
 ·rw[←h',hi]
 ·rw[hi]at h';cases h'
theorem Fz.mut{H H1:Nat→Option bl}(h:Fz H H1){i:Nat}{e:bl}(hi:H1 i=some e)(hm:e.mut):H i=some e:=by
 cases e with
 |obj=>exact h.aoZ hi
 |ga=>
  rcases h i with h'|⟨e',l',_,h'⟩
  ·rw[←h',hi]
  ·rw[hi]at h';cases h'
 |own=>exact h.abP hi
 |o8=>simp[bl.mut]at hm
 |gone=>simp[bl.mut]at hm
theorem jN.freeze{H0 H1 Hq:Nat→Option bl}{M1:Nat→Prop}{uo uf:ja}{io:List (Nat×AM)}{hs:List Nat}(h:jN c w M ν H0 H1 Hq M1 uo uf io hs){id:Nat}{e:Ty}{l:List e.den}(bo:H1 id=some (.own e l)):
  ∃M2,jN c w M ν H0 (bZ H1 id (some (.o8 e l))) Hq M2 uo ((id,some (.o8 e l))::uf) io hs∧fi w M1 w M2∧(∀b,M2 b↔(M1 b∧fI (ν id)≠some b)):=by
 obtain⟨M2,iw,_,KW⟩:=Tr.freeze h.mem bo
 have wB:id∉keys io:=λhk=>by
  obtain⟨q,hq,rfl⟩:=cL.1 hk
  have:=(h.U9 q hq).1
  rw[bo]at this;cases this
 have Xe:id∉keys (uo++uf):=λhk=>h.ks id hk e l bo
 have ajL:id∉keys uf:=λhk=>Xe (by simp only[keys,dg,bk];exact .inr hk)
 have h0:H0 id=some (.own e l):=by rw[←h.same id Xe wB];exact bo
 have hq:Hq id=some (.own e l):=h.fz.abP bo
 have lL: ∀i,i∈keys (uo++(id,some (bl.o8 e l))::uf)↔i=id∨i∈keys (uo++uf):=by
  intro i
  simp only[keys,dg,bR,bk,aZ]
  constructor
  ·rintro(h|h|h)
   ·exact .inr (.inl h)
   ·exact .inl h
   ·exact .inr (.inr h)
  ·rintro(h|h|h)
   ·exact .inr (.inl h)
   ·exact .inl h
   ·exact .inr (.inr h)
 refine⟨M2,⟨iw.mem,h.NF,h.cm.trans iw.cm,λi hi=> ?_,h.XQ,λq lC=> ?_,h.ion,λi hi e' l'=> ?_,λi hi=> ?_,λi=> ?_,h.uov,λu hu=> ?_,h.nd,λb hb=> ?_,h.NG,h.none,h.iob,λi hi nD=> ?_⟩,iw.cm,KW⟩
 ·rw[AS _ _ ajL]
  by_cases bY:i=id
  ·subst bY;rw[ay,ay]
  ·rw[az _ _ bY,az _ _ bY];exact h.ext i hi
 ·obtain⟨h1,h2,h3⟩:=h.U9 q lC
  have iI:q.1≠id:=λe=>wB (e▸fa lC)
  exact⟨by rw[az _ _ iI];exact h1,h2,h3⟩
 ·by_cases bY:i=id
  ·subst bY;rw[ay];intro h';cases h'
  ·rw[az _ _ bY]
   exact h.ks i (((lL i).1 hi).resolve_left bY) e' l'
 ·rcases(lL i).1 hi with rfl|hi
  ·exact⟨wB,e,l,h0⟩
  ·exact h.ksn i hi
 ·by_cases bY:i=id
  ·subst bY;exact .inr ⟨e,l,hq,ay _ _ _⟩
  ·rw[az _ _ bY];exact h.fz i
 ·rcases aZ.1 hu with rfl|hu
  ·exact⟨e,l,rfl,h0⟩
  ·exact h.ufv u hu
 ·exact(KW b).2 ⟨h.hM b hb,λfg=>h.none b hb id _ hq trivial fg⟩
 ·have iI:i≠id:=λe=>hi ((lL i).2 (.inl e))
  rw[az _ _ iI]
  exact h.same i (λh'=>hi ((lL i).2 (.inr h'))) nD
theorem jN.hand{H0 H1 Hq:Nat→Option bl}{M1:Nat→Prop}{uo uf:ja}{io:List (Nat×AM)}{hs:List Nat}(h:jN c w M ν H0 H1 Hq M1 uo uf io hs){id:Nat}{e:Ty}{l:List e.den}(bo:H1 id=some (.own e l)):
  jN c w M ν H0 (bZ H1 id (some .gone)) (bZ Hq id (some .gone)) M1 ((id,some .gone)::uo) uf io (hs++(fI (ν id)).toList):=by
 have wB:id∉keys io:=λhk=>by
  obtain⟨q,hq,rfl⟩:=cL.1 hk
  have:=(h.U9 q hq).1
  rw[bo]at this;cases this
 have Xe:id∉keys (uo++uf):=λhk=>h.ks id hk e l bo
 have ajL:id∉keys uo:=λhk=>Xe (by simp only[keys,dg,bk];exact .inl hk)
 have h0:H0 id=some (.own e l):=by rw[←h.same id Xe wB];exact bo
 have hq:Hq id=some (.own e l):=h.fz.abP bo
 have lL: ∀i,i∈keys ((id,some bl.gone)::uo++uf)↔i=id∨i∈keys (uo++uf):=by
  intro i
  simp only[keys,dg,bR,kK,bk,aZ]
 have AJ: ∀b,fI (ν id)=some b→b∉hs:=λb hb fg=>h.none b fg id _ hq trivial hb
 refine⟨(Tr.gone h.mem id).mem,(Tr.gone h.NF id).mem,h.cm,λi hi=> ?_,λi hi=> ?_,λq lC=> ?_,h.ion,λi hi e' l'=> ?_,λi hi=> ?_,λi=> ?_,λu hu=> ?_,h.ufv,?_,λb hb=> ?_,λb hb=> ?_,λb hb i e' hi hm=> ?_,λb hb hb0=> ?_,λi hi nD=> ?_⟩
 ·have:=AS (id,some .gone) (uo++uf) Xe [] H0
  simp only[cW]at this
  rw[kK,this]
  by_cases bY:i=id
  ·subst bY;rw[ay,ay]
  ·rw[az _ _ bY,az _ _ bY];exact h.ext i hi
 ·have:=AS (id,some .gone) uo ajL [] H0
  simp only[cW]at this
  rw[this]
  by_cases bY:i=id
  ·subst bY;rw[ay,ay]
  ·rw[az _ _ bY,az _ _ bY];exact h.XQ i hi
 ·obtain⟨h1,h2,h3⟩:=h.U9 q lC
  have iI:q.1≠id:=λe=>wB (e▸fa lC)
  exact⟨by rw[az _ _ iI];exact h1,by rw[az _ _ iI];exact h2,h3⟩
 ·by_cases bY:i=id
  ·subst bY;rw[ay];intro h';cases h'
  ·rw[az _ _ bY]
   exact h.ks i (((lL i).1 hi).resolve_left bY) e' l'
 ·rcases(lL i).1 hi with rfl|hi
  ·exact⟨wB,e,l,h0⟩
  ·exact h.ksn i hi
 ·by_cases bY:i=id
  ·subst bY;left;rw[ay,ay]
  ·rw[az _ _ bY,az _ _ bY];exact h.fz i
 ·rcases aZ.1 hu with rfl|hu
  ·rfl
  ·exact h.uov u hu
 ·refine ni.2 ⟨h.nd,?_,λx hx y hy=> ?_⟩
  ·cases fI (ν id)<;>simp
  ·rw[fp]at hy
   intro hxy;subst hxy
   exact AJ x hy hx
 ·rcases bk.1 hb with hb|hb
  ·exact h.hM b hb
  ·rw[fp]at hb
   exact(h.mem.ll id _ bo).yI trivial hb
 ·rcases bk.1 hb with hb|hb
  ·exact h.NG b hb
  ·rw[fp]at hb
   exact h.mem.new id _ b bo trivial hb
 ·by_cases bY:i=id
  ·subst bY;rw[ay]at hi;cases hi;simp[bl.mut]at hm
  ·rw[az _ _ bY]at hi
   rcases bk.1 hb with hb|hb
   ·exact h.none b hb i e' hi hm
   ·rw[fp]at hb
    intro fg
    exact h.NF.AB i id e' _ b bY hi hm hq trivial fg hb
 ·rcases bk.1 hb with hb|hb
  ·exact h.iob b hb hb0
  ·rw[fp]at hb
   exact absurd hb0 (h.mem.zj id e l b bo hb)
 ·have iI:i≠id:=λe=>hi ((lL i).2 (.inl e))
  rw[az _ _ iI]
  exact h.same i (λh'=>hi ((lL i).2 (.inr h'))) nD
theorem jN.ajM{H0 H1 Hq:Nat→Option bl}{M1:Nat→Prop}{uo uf:ja}{io:List (Nat×AM)}{hs:List Nat}(h:jN c w M ν H0 H1 Hq M1 uo uf io hs){id:Nat}{τ:Ty}{x:τ.den}(bo:H1 id=some (.obj τ x)):
  jN c w M ν H0 (bZ H1 id (some .gone)) (bZ Hq id (some .gone)) M1 uo uf (io++[(id,.io τ)]) (hs++(fI (ν id)).toList):=by
 have wB:id∉keys io:=λhk=>by
  obtain⟨q,hq,rfl⟩:=cL.1 hk
  have:=(h.U9 q hq).1
  rw[bo]at this;cases this
 have hq:Hq id=some (.obj τ x):=h.fz.aoZ bo
 have Xe:id∉keys (uo++uf):=λhk=>by
  have h1:=h.ext id wB
  obtain⟨_,e,l,h0⟩:=h.ksn id hk
  have key: ∀(ups:ja) (H:Nat→Option bl),(∀u∈ups,u.2=some .gone∨ ∃e l,u.2=some (.o8 e l))→id∈keys ups→c9 H ups id=some .gone∨ ∃e l,c9 H ups id=some (.o8 e l):=by
   intro ups
   induction ups with
   |nil=>intro H _ hk;simp[keys]at hk
   |cons u ups ih=>
    intro H hv hk
    by_cases hk2:id∈keys ups
    ·exact ih _ (λv XH=>hv v (a7 _ XH)) hk2
    ·show c9 (bZ H u.1 u.2) ups id=_∨ ∃e l,c9 (bZ H u.1 u.2) ups id=_
     rw[lM hk2]
     have hui:id=u.1:=by
      simp only[keys,bR,aZ]at hk hk2
      exact hk.resolve_right hk2
     rw[hui,ay]
     exact hv u bh
  have:=key (uo++uf) H0 (λu hu=>by
   rcases bk.1 hu with hu|hu
   ·exact .inl (h.uov u hu)
   ·obtain⟨e,l,h',_⟩:=h.ufv u hu;exact .inr ⟨e,l,h'⟩) hk
  rw[h1,bo]at this
  rcases this with h'|⟨_,_,h'⟩<;>cases h'
 have h0:H0 id=some (.obj τ x):=by rw[←h.same id Xe wB];exact bo
 have lL: ∀i,i∈keys (io++[(id,.io τ)])↔i∈keys io∨i=id:=by
  intro i
  simp only[keys,dg,bR,gQ,bk,aZ,List.not_mem_nil,or_false]
 have AJ: ∀b,fI (ν id)=some b→b∉hs:=λb hb fg=>h.none b fg id _ hq trivial hb
 refine⟨(Tr.gone h.mem id).mem,(Tr.gone h.NF id).mem,h.cm,λi hi=> ?_,λi hi=> ?_,λq lC=> ?_,?_,λi hi e' l'=> ?_,λi hi=> ?_,λi=> ?_,h.uov,h.ufv,?_,λb hb=> ?_,λb hb=> ?_,λb hb i e' hi hm=> ?_,λb hb hb0=> ?_,λi hi nD=> ?_⟩
 ·rw[az _ _ (λe=>hi ((lL i).2 (.inr e)))];exact h.ext i (λh'=>hi ((lL i).2 (.inl h')))
 ·rw[az _ _ (λe=>hi ((lL i).2 (.inr e)))];exact h.XQ i (λh'=>hi ((lL i).2 (.inl h')))
 ·rcases bk.1 lC with lC|lC
  ·obtain⟨h1,h2,h3⟩:=h.U9 q lC
   have iI:q.1≠id:=λe=>wB (e▸fa lC)
   exact⟨by rw[az _ _ iI];exact h1,by rw[az _ _ iI];exact h2,h3⟩
  ·rw[cr]at lC;subst lC
   exact⟨ay _ _ _,ay _ _ _,.inl ⟨τ,x,rfl,h0⟩⟩
 ·simp only[keys,dg,bR,gQ]
  refine ni.2 ⟨h.ion,by simp,λx hx y hy=> ?_⟩
  rw[cr]at hy;subst hy
  intro e;exact wB (e▸hx)
 ·by_cases bY:i=id
  ·subst bY;rw[ay];intro h';cases h'
  ·rw[az _ _ bY];exact h.ks i hi e' l'
 ·obtain⟨h1,h2⟩:=h.ksn i hi
  exact⟨λh'=>((lL i).1 h').elim h1 (λe=>Xe (e▸hi)),h2⟩
 ·by_cases bY:i=id
  ·subst bY;left;rw[ay,ay]
  ·rw[az _ _ bY,az _ _ bY];exact h.fz i
 ·refine ni.2 ⟨h.nd,?_,λx hx y hy=> ?_⟩
  ·cases fI (ν id)<;>simp
  ·rw[fp]at hy
   intro hxy;subst hxy
   exact AJ x hy hx
 ·rcases bk.1 hb with hb|hb
  ·exact h.hM b hb
  ·rw[fp]at hb
   exact(h.mem.ll id _ bo).yI trivial hb
 ·rcases bk.1 hb with hb|hb
  ·exact h.NG b hb
  ·rw[fp]at hb
   exact h.mem.new id _ b bo trivial hb
 ·by_cases bY:i=id
  ·subst bY;rw[ay]at hi;cases hi;simp[bl.mut]at hm
  ·rw[az _ _ bY]at hi
   rcases bk.1 hb with hb|hb
   ·exact h.none b hb i e' hi hm
   ·rw[fp]at hb
    intro fg
    exact h.NF.AB i id e' _ b bY hi hm hq trivial fg hb
 ·rcases bk.1 hb with hb|hb
  ·obtain⟨q,hq1,hq2⟩:=h.iob b hb hb0
   exact⟨q,c3 _ hq1,hq2⟩
  ·rw[fp]at hb
   exact⟨(id,.io τ),by simp,hb⟩
 ·have iI:i≠id:=λe=>nD ((lL i).2 (.inr e))
  rw[az _ _ iI]
  exact h.same i hi (λh'=>nD ((lL i).2 (.inl h')))
theorem jN.aio{H0 H1 Hq:Nat→Option bl}{M1:Nat→Prop}{uo uf:ja}{io:List (Nat×AM)}{hs:List Nat}(h:jN c w M ν H0 H1 Hq M1 uo uf io hs){id:Nat}{e:Ty}{l:List e.den}(bo:H1 id=some (.own e l)):
  jN c w M ν H0 (bZ H1 id (some .gone)) (bZ Hq id (some .gone)) M1 uo uf (io++[(id,.lo e)]) (hs++(fI (ν id)).toList):=by
 have wB:id∉keys io:=λhk=>by
  obtain⟨q,hq,rfl⟩:=cL.1 hk
  have:=(h.U9 q hq).1
  rw[bo]at this;cases this
 have hq:Hq id=some (.own e l):=h.fz.abP bo
 have Xe:id∉keys (uo++uf):=λhk=>h.ks id hk e l bo
 have h0:H0 id=some (.own e l):=by rw[←h.same id Xe wB];exact bo
 have lL: ∀i,i∈keys (io++[(id,.lo e)])↔i∈keys io∨i=id:=by
  intro i
  simp only[keys,dg,bR,gQ,bk,aZ,List.not_mem_nil,or_false]
 have AJ: ∀b,fI (ν id)=some b→b∉hs:=λb hb fg=>h.none b fg id _ hq trivial hb
 refine⟨(Tr.gone h.mem id).mem,(Tr.gone h.NF id).mem,h.cm,λi hi=> ?_,λi hi=> ?_,λq lC=> ?_,?_,λi hi e' l'=> ?_,λi hi=> ?_,λi=> ?_,h.uov,h.ufv,?_,λb hb=> ?_,λb hb=> ?_,λb hb i e' hi hm=> ?_,λb hb hb0=> ?_,λi hi nD=> ?_⟩
 ·rw[az _ _ (λe=>hi ((lL i).2 (.inr e)))];exact h.ext i (λh'=>hi ((lL i).2 (.inl h')))
 ·rw[az _ _ (λe=>hi ((lL i).2 (.inr e)))];exact h.XQ i (λh'=>hi ((lL i).2 (.inl h')))
 ·rcases bk.1 lC with lC|lC
  ·obtain⟨h1,h2,h3⟩:=h.U9 q lC
   have iI:q.1≠id:=λe=>wB (e▸fa lC)
   exact⟨by rw[az _ _ iI];exact h1,by rw[az _ _ iI];exact h2,h3⟩
  ·rw[cr]at lC;subst lC
   exact⟨ay _ _ _,ay _ _ _,.inr ⟨e,l,rfl,h0⟩⟩
 ·simp only[keys,dg,bR,gQ]
  refine ni.2 ⟨h.ion,by simp,λx hx y hy=> ?_⟩
  rw[cr]at hy;subst hy
  intro e;exact wB (e▸hx)
 ·by_cases bY:i=id
  ·subst bY;rw[ay];intro h';cases h'
  ·rw[az _ _ bY];exact h.ks i hi e' l'
 ·obtain⟨h1,h2⟩:=h.ksn i hi
  exact⟨λh'=>((lL i).1 h').elim h1 (λe=>Xe (e▸hi)),h2⟩
 ·by_cases bY:i=id
  ·subst bY;left;rw[ay,ay]
  ·rw[az _ _ bY,az _ _ bY];exact h.fz i
 ·refine ni.2 ⟨h.nd,?_,λx hx y hy=> ?_⟩
  ·cases fI (ν id)<;>simp
  ·rw[fp]at hy
   intro hxy;subst hxy
   exact AJ x hy hx
 ·rcases bk.1 hb with hb|hb
  ·exact h.hM b hb
  ·rw[fp]at hb
   exact(h.mem.ll id _ bo).yI trivial hb
 ·rcases bk.1 hb with hb|hb
  ·exact h.NG b hb
  ·rw[fp]at hb
   exact h.mem.new id _ b bo trivial hb
 ·by_cases bY:i=id
  ·subst bY;rw[ay]at hi;cases hi;simp[bl.mut]at hm
  ·rw[az _ _ bY]at hi
   rcases bk.1 hb with hb|hb
   ·exact h.none b hb i e' hi hm
   ·rw[fp]at hb
    intro fg
    exact h.NF.AB i id e' _ b bY hi hm hq trivial fg hb
 ·rcases bk.1 hb with hb|hb
  ·obtain⟨q,hq1,hq2⟩:=h.iob b hb hb0
   exact⟨q,c3 _ hq1,hq2⟩
  ·rw[fp]at hb
   exact⟨(id,.lo e),by simp,hb⟩
 ·have iI:i≠id:=λe=>nD ((lL i).2 (.inr e))
  rw[az _ _ iI]
  exact h.same i hi (λh'=>nD ((lL i).2 (.inl h')))
end VM
end
section
namespace VM
open Go
variable{P:Program}{E:Env}{o:Oper}{a:Act}{w:World}{M:Nat→Prop}{ν:Nat→Value}{σ:St}{c:Ctx}{α:Type}{r:α}{next:Act→World→Prop}{Q:Exit→Act→World→Prop}
theorem tU.upd{H:Nat→Option bl}{id:Nat}{e e':bl}(bo:H id=some e)(hl:e.lJ e'):tU H ν (bZ H id (some e')) ν:=
 ⟨λi e1 hi=>by
  by_cases bY:i=id
  ·subst bY;rw[bo]at hi;cases hi;exact⟨e',ay _ _ _,hl⟩
  ·exact⟨e1,by rw[az _ _ bY];exact hi,.refl e1⟩,λ_ _=>rfl⟩
theorem bl.kR(e:bl):e.lJ .gone:=by cases e<;>simp[bl.lJ]
theorem VR.ao0{H H':Nat→Option bl}{ν':Nat→Value}{a:Ty}{x:a.den}{v:Value}(h:VR w M H ν (C0 a x) v):VR w M H' ν' (C0 a x) v:=by
 unfold C0 at h ⊢
 split at h
 ·simp only[VR]at h ⊢;exact h
 ·simp only[VR]at h ⊢;exact h
theorem ju.free{H H':Nat→Option bl}{ν':Nat→Value}: ∀{τ:Ty} {x:τ.den} {vs:List Value},ju w M H ν (qA τ x) vs→ju w M H' ν' (qA τ x) vs
 | .pair a b,x,v::vs,h=>by
  simp only[qA,ju]at h ⊢
  exact⟨VR.ao0 h.1,ju.free h.2⟩
 | .pair a b,x,[],h=>by simp[qA,ju]at h
 | .int _,_,[],_| .bool,_,[],_| .str,_,[],_| .slice _,_,[],_| .unit,_,[],_| .arr _ _,_,[],_=>by simp[qA,ju]
 | .int _,_,_::_,h| .bool,_,_::_,h| .str,_,_::_,h| .slice _,_,_::_,h| .unit,_,_::_,h| .arr _ _,_,_::_,h=>by simp[qA,ju]at h
theorem Dd{H0 H1 Hq:Nat→Option bl}{M1:Nat→Prop}{uo uf:ja}{io:List (Nat×AM)}{hs:List Nat}(h:jN c w M ν H0 H1 Hq M1 uo uf io hs){m:AM}{x:bI}{v:Value}(hv:VR w M1 H1 ν x v)
  {k:m.den→(Nat→Option bl)→List Nat→ja→ja→List (Nat×AM)→Option α} (hk:oj m x H1 k=some r):
  ∃y H2 rd MH MI HZ Xf M2,k y H2 rd MH MI HZ=some r∧jN c w M ν H0 H2 Xf M2 (MH++uo) (MI++uf) (io++HZ) (hs++dh m v)∧fi w M1 w M2∧tU H1 ν H2 ν∧A1 w M2 m y v∧
   HZ.map (λq=>ν q.1)=(if m.iJ then [v]else [])∧HZ.map (·.2)=nH [m]:=by
 unfold oj at hk
 split at hk
 ·
  rename_i τ k
  obtain⟨y,rd,ups,hk,hy⟩:=EI h.mem hv hk
  rcases hy with⟨rfl,hV⟩|⟨id,e,l,rfl,bo,hV⟩
  ·exact⟨y,H1,rd,[],[],[],Hq,M1,hk,by simpa [dh]using h,.refl w M1,.refl H1 ν,hV,rfl,rfl⟩
  ·obtain⟨M2,hA,hK,KW⟩:=h.freeze bo
   exact⟨y,_,rd,[],_,[],Hq,M2,hk,by simpa [dh]using hA,hK,.upd bo ⟨rfl,rfl⟩,hV M2 KW,rfl,rfl⟩
 ·
  rename_i e k
  split at hk
  ·obtain⟨ad,hv⟩:=VR.emp.1 hv
   subst hv
   have hb:fI (.slice ad 0 0)=none:=by cases ad<;>simp[fI]
   exact⟨[],H1,[],[],[],[],Hq,M1,hk,by simpa [dh,hb]using h,.refl w M1,.refl H1 ν,by simp only[A1,ER];exact .inl ⟨trivial,ad,rfl⟩,rfl,rfl⟩
  ·rename_i id
   split at hk
   ·rename_i e' l bo
    obtain⟨e1,hk⟩:=bG hk
    cases e1
    simp only[VR]at hv
    obtain⟨_,rfl⟩:=hv
    refine⟨_,_,_,_,_,_,_,M1,hk,by simpa [dh]using h.hand bo,.refl w M1,.upd bo (bl.kR _),?_,rfl,rfl⟩
    have:=h.mem.ll id _ bo
    exact this
   ·cases hk
  ·cases hk
 ·
  rename_i τ k
  split at hk
  ·rename_i id
   split at hk
   ·rename_i υ z bo
    obtain⟨e1,hk⟩:=bG hk
    subst e1
    simp only[VR]at hv
    obtain⟨e,he,oa⟩:=hv
    rw[bo]at he;cases he
    simp only[AR]at oa
    obtain⟨_,b,hb,hv⟩:=oa
    have XR:v=ν id:=by rw[hv,hb];rfl
    subst XR
    refine⟨_,_,_,_,_,_,_,M1,hk,by simpa [dh]using h.ajM bo,.refl w M1,.upd bo (bl.kR _),?_,rfl,rfl⟩
    have:=h.mem.ll id _ bo
    exact this
   ·cases hk
  ·cases hk
 ·
  rename_i f τ k
  split at hk
  ·rename_i f' cs
   obtain⟨hf,hk1⟩:=cF hk
   clear hk
   have hf:=fR hf
   subst hf
   have hk:=hk1
   clear hk1
   simp only[VR]at hv
   obtain⟨us,rfl,hvs⟩:=hv
   obtain⟨y,rd,ups,hk,hy⟩:=FZ h.mem hvs hk
   split at hk
   ·exact⟨y,H1,rd,[],[],[],Hq,M1,hk,by simpa [dh]using h,.refl w M1,.refl H1 ν,by simp only[A1,VR];exact⟨us,rfl,hy rfl⟩,rfl,rfl⟩
   ·cases hk
  ·cases hk
 ·cases hk
 ·
  rename_i τ k
  split at hk
  ·rename_i υ z
   obtain⟨e1,hk⟩:=bG hk
   subst e1
   exact⟨_,H1,_,[],[],[],Hq,M1,hk,by simpa [dh]using h,.refl w M1,.refl H1 ν,by simp only[A1,VR]at hv ⊢;exact hv,rfl,rfl⟩
  ·cases hk
 ·
  rename_i e k
  split at hk
  ·rename_i id
   split at hk
   ·rename_i e' l bo
    obtain⟨e1,hk⟩:=bG hk
    cases e1
    simp only[VR]at hv
    obtain⟨_,rfl⟩:=hv
    refine⟨_,_,_,_,_,_,_,M1,hk,by simpa [dh]using h.aio bo,.refl w M1,.upd bo (bl.kR _),?_,rfl,rfl⟩
    have:=h.mem.ll id _ bo
    exact this
   ·cases hk
  ·cases hk
theorem De{H0:Nat→Option bl}: ∀{ms:List AM} {qK:List bI} {vs:List Value} {H1 Hq:Nat→Option bl} {M1:Nat→Prop} {rd:List Nat} {uo uf:ja} {io:List (Nat×AM)} {hs:List Nat} {K:HP ms→List Nat→ja→ja→List (Nat×AM)→Option α},
  jN c w M ν H0 H1 Hq M1 uo uf io hs→ju w M1 H1 ν qK vs→uE ms qK H1 rd uo uf io K=some r→
  ∃x BY MH MI HZ H2 Xf M2,K x BY MH MI HZ=some r∧jN c w M ν H0 H2 Xf M2 MH MI HZ (hs++dX ms vs)∧fi w M1 w M2∧jM w M2 ms x vs∧
   HZ.map (λq=>ν q.1)=io.map (λq=>ν q.1)++fx ms vs∧HZ.map (·.2)=io.map (·.2)++nH ms
 |[],[],[],H1,Hq,M1,rd,uo,uf,io,hs,K,h,_,hk=>
  ⟨(),rd,uo,uf,io,H1,Hq,M1,hk,by simpa [dX]using h,.refl w M1,rfl,by simp[fx],by simp[nH]⟩
 |[m],[x],[v],H1,Hq,M1,rd,uo,uf,io,hs,K,h,hv,hk=>by
  simp only[ju,ec]at hv
  obtain⟨y,H2,rd1,uo1,uf1,io1,Xf,M2,hk,hA,hK,hG,hy,hi1,Xg⟩:=Dd h hv (hk:oj m x H1 _=some r)
  refine⟨y,_,_,_,_,H2,Xf,M2,hk,by simpa [dX]using hA,hK,⟨v,[],rfl,hy,rfl⟩,?_,?_⟩
  ·rw[dg,hi1];cases wB:m.iJ<;>simp[fx,wB]
  ·rw[dg,Xg]
 |m::n::ms,x::xs,v::vs,H1,Hq,M1,rd,uo,uf,io,hs,K,h,hv,hk=>by
  simp only[ju]at hv
  obtain⟨y,H2,rd1,uo1,uf1,io1,Xf,M2,hk,hA,hK,hG,hy,hi1,Xg⟩:=Dd h hv.1 (hk:oj m x H1 _=some r)
  obtain⟨ys,BY,MH,MI,HZ,H3,Hq3,M3,hk,hA',hK',hys,hi3,hi4⟩:=De (ms:=n::ms) hA (ju.cm hK hG hv.2) hk
  refine⟨(y,ys),_,_,_,_,H3,Hq3,M3,hk,by simpa [dX,bH]using hA',hK.trans hK',⟨v,vs,rfl,?_,hys⟩,?_,?_⟩
  ·refine A1.xu hK' (λb hb=>⟨rfl,hA'.hM b ?_⟩) hy
   exact c3 _ (dK _ hb)
  ·rw[hi3,dg,hi1,bH]
   congr 1
   cases wB:m.iJ<;>simp[fx,wB]
  ·rw[hi4,dg,Xg,bH]
   congr 1
   cases m<;>simp[nH]
 |[],_::_,_,_,_,_,_,_,_,_,_,_,_,_,hk=>by simp[uE]at hk
 |[_],[],_,_,_,_,_,_,_,_,_,_,_,_,hk=>by simp[uE]at hk
 |[_],_::_::_,_,_,_,_,_,_,_,_,_,_,_,_,hk=>by simp[uE]at hk
 |_::_::_,[],_,_,_,_,_,_,_,_,_,_,_,_,hk=>by simp[uE]at hk
 |_,_::_,[],_,_,_,_,_,_,_,_,_,_,hv,_=>by simp[ju]at hv
 |[],[],_::_,_,_,_,_,_,_,_,_,_,_,hv,_=>by simp[ju]at hv
 |[_],[_],_::_::_,_,_,_,_,_,_,_,_,_,_,hv,_=>by simp[ju]at hv
end VM
end
