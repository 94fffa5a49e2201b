/- A part of the proof of WindTwice of layer 21: a machine that reads a function of the program as an equation between values. -/
import Derived.Test.YtecmobijochjkaaGreatVm2
import Derived.Great.FillDense
set_option linter.all false
section
namespace VM
open Go
variable{P:Program}{E:Env}{o:Oper}{a:Act}{w:World}{M:Nat→Prop}{ν:Nat→Value}{σ:St}{c:Ctx}{α:Type}{r:α}{next:Act→World→Prop}{Q:Exit→Act→World→Prop}
theorem VL(off:Nat)(new:Array Value)(cs:Array Value)(h:off+new.size≤cs.size):
  (new.zipIdx.foldl (λcs (x:Value×Nat)=>cs.setIfInBounds (off+x.2) x.1) cs)=(fb cs.toList off new.toList).toArray:=by
 have h1:new.zipIdx.foldl (λcs (x:Value×Nat)=>cs.setIfInBounds (off+x.2) x.1) cs=(new.toList.zipIdx 0).foldl (λcs (x:Value×Nat)=>cs.setIfInBounds (off+x.2) x.1) cs:=by
  rw[←Array.foldl_toList,Array.toList_zipIdx]
 rw[h1]
 obtain⟨hs,hk⟩:=Great.foldl_set off new.toList 0 cs
 apply Array.ext_getElem?
 intro k
 rw[hk k,←gR (xs:=cs)]
 have hl:new.toList.length=new.size:=bI
 have hc:cs.toList.length=cs.size:=bI
 unfold fb
 rw[LZ]
 by_cases h2:k<off
 ·rw[ah ω,br,se (by rw[cc];omega),List.getElem?_take_of_lt h2]
 ·by_cases h3:k<off+new.size
  ·rw[aj ω,se (by rw[aS,cc];omega),oG (by rw[cc];omega),cc]
   congr 1
   omega
  ·rw[ah ω,oG (by rw[aS,cc];omega),aS,cc,lP]
   congr 1
   omega
theorem Ib{place:Nat→Option (Nat×Nat)}{cs:Array Value}{i:Nat}{v:Value}{rest:List (Nat×Value)}{off s:Nat}(hp:place i=some (off,s))(hs:v.cells.size=s)(h:off+s≤cs.size):
  Instr.fill place cs ((i,v)::rest)=Instr.fill place (fb cs.toList off v.cells.toList).toArray rest:=by
 have h1: ¬(decide (v.cells.size≠s)||decide (off+v.cells.size>cs.size))=true:=by simp[hs];omega
 conv=>lhs;unfold Instr.fill
 rw[hp]
 simp only
 rw[ah h1]
 congr 1
 exact VL off v.cells cs ω
theorem ue(a:Act)(ps:Array (Nat×Operand)):(ps.map λ(i,x)=>(i,a.eval x)).toList=ps.toList.map λp=>(p.1,a.eval p.2):=by
 rw[Array.toList_map]
def PR(w:World)(M:Nat→Prop)(H:Nat→Option bl)(ν:Nat→Value):List (Nat×bC)→List (Nat×Value)→Prop
 |[],[]=>True
 |p::ps,q::qs=>p.1=q.1∧VR w M H ν p.2 q.2∧PR w M H ν ps qs
 |_,_=>False
theorem PR.ca{w':World}{M':Nat→Prop}{H H':Nat→Option bl}{ν':Nat→Value}(k:e8 w M w' M')(g:sR H ν H' ν'): ∀{ps:List (Nat×bC)} {qs:List (Nat×Value)},PR w M H ν ps qs→PR w' M' H' ν' ps qs
 |[],[],_=>trivial
 |_::_,_::_,h=>⟨h.1,h.2.1.ca k g,PR.ca k g h.2.2⟩
 |[],_::_,h=>h.elim
 |_::_,[],h=>h.elim
theorem Core.pr(hc:Core c σ a.tmps w M ν): ∀ps:List (Nat×Operand),PR w M σ.H ν (ps.map λp=>(p.1,σ.ρ p.2)) (ps.map λp=>(p.1,a.eval p.2))
 |[]=>trivial
 |p::ps=>⟨rfl,hc.ev p.2,hc.pr ps⟩
theorem Ci{e:Ty}{n:Nat}{H:Nat→Option bl}: ∀(ps:List (Nat×bC)) (qs:List (Nat×Value)) (H1:Nat→Option bl) (M:Nat→Prop) (l:List e.den) (cs:Array Value) (rd:List Nat) (ups:iV) (K:List e.den→List Nat→iV→Option α),
  Fz H H1→Mem c H1 w M ν→PR w M H1 ν ps qs→l.length=n→cs.size=n*e.size→qS w M e cs.toList l→H1=c4 H ups→vU e H n ps l rd ups K=some r→
  ∃l' Ba n0 M' cs',K l' Ba n0=some r∧Tr c H1 w M ν (c4 H n0) w M' ν∧Fz H (c4 H n0)∧l'.length=n∧cs'.size=n*e.size∧qS w M' e cs'.toList l'∧
   Instr.fill (λi=>some (i*e.size,e.size)) cs qs=some cs':=by
 intro ps
 induction ps with
 |nil=>
  intro qs H1 M l cs rd ups K hz hm hp hl hs hr hH h
  cases qs with
  |cons _ _=>exact hp.elim
  |nil=>exact⟨l,rd,ups,M,cs,h,hH▸Tr.refl hm,hH▸hz,hl,hs,hr,rfl⟩
 |cons p ps ih=>
  intro qs H1 M l cs rd ups K hz hm hp hl hs hr hH h
  cases qs with
  |nil=>exact hp.elim
  |cons q qs=>
   obtain⟨h1,h2,h3⟩:=hp
   unfold vU at h
   obtain⟨hb,h⟩:=cB h
   have e9:p.1<n:=by simpa [zE]using hb
   obtain⟨y,rd1,P7,M1,h,il,hV,Cj,_⟩:=n7 hz hm h2 h
   have hlen:(q.2.cells).size=e.size:=by rw[←bI];exact hV.cells.length
   have hmul:=ew (s:=e.size) e9
   have xV:=qS.set (hr.ca il.ca) (by rw[hl,bI,hs];exact aG _) (i:=p.1) ω hV.cells
   obtain⟨l',Ba,n0,M',cs',hK,ahi,A5,JN,RF,eO,hf⟩:=ih qs (c4 H1 P7) M1 (l.set p.1 y) (fb cs.toList (p.1*e.size) q.2.cells.toList).toArray (rd1++rd) (ups++P7) K Cj il.mem (h3.ca il.ca il.goes)
    (by rw[bN];exact hl) (by rw[iX,gC (by rw[bI,bI];omega),bI,hs]) xV (by rw[gr,hH]) h
   refine⟨l',Ba,n0,M',cs',hK,il.trans ahi,A5,JN,RF,eO,?_⟩
   rw[Ib (off:=p.1*e.size) (s:=e.size) (by rw[h1]) hlen ω]
   exact hf
theorem JY{τ:Ty}{H:Nat→Option bl}{place:Nat→Option (Nat×Nat)}(Hl: ∀(x:τ.den) n υ y o,C9 τ x n υ y o→place n=some (o,υ.size)):
  ∀(ps:List (Nat×bC)) (qs:List (Nat×Value)) (H1:Nat→Option bl) (M:Nat→Prop) (x:τ.den) (cs:Array Value) (rd:List Nat) (ups:iV) (K:τ.den→List Nat→iV→Option α),
  Fz H H1→Mem c H1 w M ν→PR w M H1 ν ps qs→Rd w M τ cs.toList x→H1=c4 H ups→ua τ H ps x rd ups K=some r→
  ∃x' Ba n0 M' cs',K x' Ba n0=some r∧Tr c H1 w M ν (c4 H n0) w M' ν∧Fz H (c4 H n0)∧Rd w M' τ cs'.toList x'∧Instr.fill place cs qs=some cs'∧
   ∀m υ,JH τ m=some υ→(ps.all λp=> !(Nat.beq p.1 m))=true→(cs'.toList.drop (rO τ m)).take υ.size=(cs.toList.drop (rO τ m)).take υ.size:=by
 intro ps
 induction ps with
 |nil=>
  intro qs H1 M x cs rd ups K hz hm hp hr hH h
  cases qs with
  |cons _ _=>exact hp.elim
  |nil=>exact⟨x,rd,ups,M,cs,h,hH▸Tr.refl hm,hH▸hz,hr,rfl,λ_ _ _ _=>rfl⟩
 |cons p ps ih=>
  intro qs H1 M x cs rd ups K hz hm hp hr hH h
  cases qs with
  |nil=>exact hp.elim
  |cons q qs=>
   obtain⟨h1,h2,h3⟩:=hp
   unfold ua at h
   obtain⟨υ,y0,of,hf,h⟩:=ti h
   obtain⟨y,rd1,P7,M1,h,il,hV,Cj,_⟩:=n7 hz hm h2 h
   obtain⟨υ',y',o',k',Bb,jR,Hj⟩:=sq h
   obtain⟨rfl,rfl⟩:=Bb.eq
   obtain⟨rfl,rfl⟩:=hf.eq
   obtain⟨e1,Lq⟩:=bB jR
   obtain⟨x',oY,_,kV⟩:=Hj _ _ Lq
   have hlen:(q.2.cells).size=(vr τ p.1).size:=by rw[←bI];exact hV.cells.length
   have hb:=hf.bound
   have Mn:=hr.length
   rw[bI]at Mn
   obtain⟨x2,Ba,n0,M',cs',hK,ahi,A5,eO,Tf,P8⟩:=ih qs (c4 H1 P7) M1 x' (fb cs.toList (rO τ p.1) q.2.cells.toList).toArray (rd1++rd) (ups++P7) K Cj il.mem (h3.ca il.ca il.goes)
    (kV w M1 _ _ (hr.ca il.ca) hV.cells) (by rw[gr,hH]) oY
   refine⟨x2,Ba,n0,M',cs',hK,il.trans ahi,A5,eO,?_,λm υ jR lq=> ?_⟩
   ·rw[Ib (off:=rO τ p.1) (s:=(vr τ p.1).size) (by rw[←h1];exact Hl _ _ _ _ _ hf) hlen ω]
    exact Tf
   ·rw[Ez,bR]at lq
    rw[P8 m υ jR lq.2]
    obtain⟨y2,o2,hf2⟩:=tj jR x
    obtain⟨e3,e4⟩:=hf2.eq
    subst e3 e4
    have jB:p.1≠m:=λe=>by have:=lq.1;rw[e,tc]at this;cases this
    have hap:=hf.apart hf2 jB
    have tS:=hf2.bound
    show((fb cs.toList (rO τ p.1) q.2.cells.toList).drop _).take _=_
    rw[JP (by rw[bI];omega) (by rw[bI,bI];omega)]
theorem fR.places: ∀(τ:Ty) (fs:Array Field) (n off:Nat),fR P τ (.inr (fs,n,off))→
  ∃ps,(fs.toList.drop n).mapM (λf=>(P.info? f.type).map λi=>(f.offset,i.size))=some ps∧ ∀(x:τ.den) m υ y o,C9 τ x m υ y o→ps[m]? =some (off+o,υ.size)
 | .unit,fs,n,off,h=>by
  simp only[fR]at h
  refine⟨[],?_,λx m υ y o hf=>by cases hf⟩
  rw[kG (by rw[bI];omega)];rfl
 | .pair t b,fs,n,off,h=>by
  simp only[fR]at h
  obtain⟨f,hf,ho,ha,hb⟩:=h
  obtain⟨ps,JZ,Tf⟩:=fR.places b fs (n+1) (off+t.size) hb
  obtain⟨i,hi,hs,_⟩:=(show kI P t f.type from ha).base
  have e9:n<fs.toList.length:=by rw[bI];exact(kF.1 hf).1
  have hfe:fs.toList[n]=f:=by rw[zp];exact(kF.1 hf).2
  refine⟨(off,t.size)::ps,?_,λx m υ y o Bb=> ?_⟩
  ·rw[pU e9,zx,JZ,hfe,hi]
   simp[ho,hs]
  ·cases Bb with
   |here=>simp
   |there _ h'=>simp[Tf _ _ _ _ _ h',oV]
 | .int _,_,_,_,h| .bool,_,_,_,h| .str,_,_,_,h| .slice _,_,_,_,h| .arr _ _,_,_,_,h=>by simp[fR]at h
theorem kI.places{τ:Ty}{t:TypeId}(h:kI P τ t)(ha:τ.isAgg=true)(hn: ∀n e,τ≠ .arr n e):
  ∃fs ps,P.underlying t=some (.struct fs)∧fs.toList.mapM (λf=>(P.info? f.type).map λi=>(f.offset,i.size))=some ps∧ ∀(x:τ.den) m υ y o,C9 τ x m υ y o→ps[m]? =some (o,υ.size):=by
 cases τ with
 |unit=>
  simp only[kI,fR]at h
  obtain⟨_,fs,hu,hs⟩:=h
  refine⟨fs,[],hu,?_,λx m υ y o hf=>by cases hf⟩
  have:fs.toList=[]:=tT (by rw[bI];exact hs)
  rw[this];rfl
 |pair t' b=>
  simp only[kI,fR]at h
  obtain⟨_,fs,f,hu,hf,ho,ha',hb⟩:=h
  have hg:fR P (.pair t' b) (.inr (fs,0,0)):=by
   simp only[fR]
   exact⟨f,hf,ho,ha',by simpa using hb⟩
  obtain⟨ps,JZ,Tf⟩:=fR.places _ fs 0 0 hg
  exact⟨fs,ps,hu,JZ,λx m υ y o Bb=>by simpa using Tf x m υ y o Bb⟩
 |arr n e=>exact absurd rfl (hn n e)
 |int _=>simp[Ty.isAgg]at ha
 |bool=>simp[Ty.isAgg]at ha
 |str=>simp[Ty.isAgg]at ha
 |slice _=>simp[Ty.isAgg]at ha
theorem zV{ρ:Operand→Value}{t:TypeId}{ps:Array (Nat×Operand)}(ho:o.op= .build t ps){v:Value}(h:(Instr.build t (ps.map λ(i,x)=>(i,ρ x))).run P w= .ok v w):(execOp ρ o).run P w= .ok (.value v) w:=by
 simp[execOp,ho,h]
theorem zW{ρ:Operand→Value}{t:TypeId}{n:Nat}{ps:Array (Nat×Operand)}(ho:o.op= .buildSlice t n ps){v:Value}{w':World}(h:(Instr.buildSlice t n (ps.map λ(i,x)=>(i,ρ x))).run P w= .ok v w'):(execOp ρ o).run P w= .ok (.value v) w':=by
 simp[execOp,ho,h]
theorem VR.RG{H:Nat→Option bl}{τ:Ty}(ha:τ.isAgg=true){cs:Array Value}{x:τ.den}(h:Rd w M τ cs.toList x):VR w M H ν (.val τ x) (.agg cs):=by
 simp only[VR,V];rw[aj ha];exact⟨cs,rfl,h⟩
theorem J0(hE:EnvTy P E)(hc:Core c σ a.tmps w M ν){t:TypeId}{ps:Array (Nat×Operand)}(ho:o.op= .build t ps){K:ja α}{n:Nat}{e:Ty}(ht:E.ty t=some (.arr n e))
  (h:vU e σ.H n (partsOf σ.ρ ps) (List.replicate n e.zero) [] [] (λl rd ups=>K (.val (.arr n e) l) rd ups)=some r) (hn:ga c σ a o w M ν K r next):o.wp P a w next Q:=by
 have hl:=hE.ty t _ ht
 obtain⟨e',hu,hle⟩:=hl.arr
 obtain⟨i,hi,hs,hz,_⟩:=hl.base
 obtain⟨ie,hie,hes,_⟩:=hle.base
 have Y6:=Rd.arr.1 (Rd.zero w M (.arr n e))
 obtain⟨l',Ba,n0,M',cs',hK,il,A5,JN,RF,eO,hf⟩:=Ci (partsOf σ.ρ ps) (ps.toList.map λ(p:Nat×Operand)=>(p.1,a.eval p.2)) σ.H M (List.replicate n e.zero) (Ty.dj (.arr n e)).toArray [] [] _ (.refl _) hc.mem (hc.pr ps.toList)
  (by rw[cR]) (by rw[iX];exact Y6.2.1) Y6.2.2 rfl h
 refine a8 (zV ho (run_build w t _ cs' ?_)) (hn _ _ _ _ _ _ _ hK il (VR.RG rfl (Rd.arr.2 ⟨JN,by rw[bI];exact RF,eO⟩)))
 unfold Program.built
 rw[hi,hu]
 simp only[hz,hie,hes,ue]
 exact hf
theorem Dg(hE:EnvTy P E)(hc:Core c σ a.tmps w M ν){t:TypeId}{ps:Array (Nat×Operand)}(ho:o.op= .build t ps){K:ja α}{τ:Ty}(ht:E.ty t=some τ)(hna: ∀n e,τ≠ .arr n e)
  (h:cond τ.isAgg (ua τ σ.H (partsOf σ.ρ ps) τ.zero [] [] (λl rd ups=>K (Zn E (partsOf σ.ρ ps) τ l) rd ups)) none=some r) (hn:ga c σ a o w M ν K r next):o.wp P a w next Q:=by
 obtain⟨Mj,h⟩:=cB h
 have hl:=hE.ty t _ ht
 obtain⟨fs,pl,hu,JZ,Hl⟩:=hl.places Mj hna
 obtain⟨i,hi,hs,hz,_⟩:=hl.base
 obtain⟨l',Ba,n0,M',cs',hK,il,A5,eO,hf,P8⟩:=JY (place:=(pl.toArray[·]?)) (λx n υ y o hf=>by simpa using Hl x n υ y o hf) (partsOf σ.ρ ps) (ps.toList.map λ(p:Nat×Operand)=>(p.1,a.eval p.2)) σ.H M τ.zero τ.dj.toArray [] [] _ (.refl _) hc.mem (hc.pr ps.toList)
  (Rd.zero w M τ) rfl h
 have hvr:VR w M' (c4 σ.H n0) ν (Zn E (partsOf σ.ρ ps) τ l') (.agg cs'):=by
  unfold Zn
  split
  ·rename_i n e sS
   cases lq:(partsOf σ.ρ ps).all λp=> !(Nat.beq p.1 n)
   ·exact VR.RG Mj eO
   ·have hq:=RA sS
    show VR w M' (c4 σ.H n0) ν (.JI τ l' n) (.agg cs')
    have hv:=VR.RG (H:=c4 σ.H n0) (ν:=ν) Mj eO
    simp only[VR]at hv ⊢
    refine⟨hv,cs',none,rfl,?_⟩
    have hfq:JH τ n=some (.slice e):=by
     unfold gN at hq
     split at hq
     ·rename_i a ha
      rw[ha]
      have:=bx hq
      rw[this]
     ·cases hq
    have h2:=P8 n _ hfq lq
    have h3:=H7 hq
    simp only[cF,m3]at h3
    have h4:=fi (λl=>l[0]?) h2
    simp only[lO,lP,m3]at h4
    rw[aj (show 0<(Ty.slice e).size from Nat.one_pos),aj (show 0<(Ty.slice e).size from Nat.one_pos)]at h4
    rw[h4];exact h3
  ·exact VR.RG Mj eO
 refine a8 (zV ho (run_build w t _ cs' ?_)) (hn _ _ _ _ _ _ _ hK il hvr)
 unfold Program.built
 rw[hi,hu]
 have hzc:(cK τ τ.dj).cells=τ.dj.toArray:=by apply jq;rw[gT]
 simp only[hz,JZ,ue,hzc]
 exact hf
theorem Hm(hE:EnvTy P E)(hc:Core c σ a.tmps w M ν){t:TypeId}{n:Nat}{ps:Array (Nat×Operand)}(ho:o.op= .buildSlice t n ps){K:ja α}{e:Ty}(ht:E.ty t=some (.slice e)){id:Nat}
  (h:cond (Nat.ble (n*(e.size+1)) 16777216) (qN σ.H id (.own e []) (vU e σ.H n (partsOf σ.ρ ps) (List.replicate n e.zero) [] [] λl rd ups=>K (.ref id) (id::rd) (ups++[(id,some (.own e l))]))) none=some r)
  (hn:ga c σ a o w M ν K r next):o.wp P a w next Q:=by
 obtain⟨hb,h⟩:=cB h
 obtain⟨bf,h⟩:=ll h
 have hb:=Ek hb
 rw[Nat.mul_add,Nat.mul_one]at hb
 obtain⟨e',hu,hle⟩:=(hE.ty t _ ht).slice
 obtain⟨ie,hie,hes,hz,_⟩:=hle.base
 obtain⟨l',Ba,n0,M',cs',hK,il,A5,JN,RF,eO,hf⟩:=Ci (partsOf σ.ρ ps) (ps.toList.map λ(p:Nat×Operand)=>(p.1,a.eval p.2)) σ.H M (List.replicate n e.zero) (madeCells (cK e e.dj).cells (n*e.size)) [] [] _ (.refl _) hc.mem (hc.pr ps.toList)
  (by rw[cR]) (size_madeCells _ _) (qS.made w M e (aG _)) rfl h
 have ag8:c4 σ.H n0 id=none:=A5.none bf
 have we:=il.trans (Tr.row il.mem ag8 e' (e:=e) (cs:=cs') (l:=l') (cap:=n) ω (by simp[maxLen];omega) RF eO)
 have dE:(Instr.buildSlice t n (ps.map λ(i,x)=>(i,a.eval x))).run P w= .ok (.slice (some ⟨w.heap.size,0,none⟩) n n) (w.alloc (.cells cs' e')):=by
  by_cases h0:n*e.size=0
  ·rw[h0]at hf
   have hm0:madeCells (cK e e.dj).cells 0=(Array.range 0).map λi:Nat=>(#[]:Array Value)[i%0]! :=by simp[madeCells]
   rw[hm0]at hf
   rw[←ue]at hf
   simp[Instr.buildSlice,run_underlying hu,Go.sizeOf,typeInfo,hie,hes,h0,newRow]at hf ⊢
   simp[hf]
  ·refine run_buildSlice w t e' n _ cs' ie _ hu hie hz (by rw[hes];omega) (by rw[hes];exact h0) ?_
   rw[hes,ue]
   exact hf
 refine a8 (zW ho dE) (hn _ _ _ _ _ (λb=>M' b∨b=w.heap.size) (dh ν id (.slice (some ⟨w.heap.size,0,none⟩) l'.length n)) hK ?_ ?_)
 ·rw[gr];exact we
 ·simp only[VR]
  exact⟨by rw[gr];show bY _ id _ id≠none;rw[ay];simp,by simp[dh,JN]⟩
end VM
end
section
namespace VM
open Go
variable{P:Program}{E:Env}{o:Oper}{a:Act}{w:World}{M:Nat→Prop}{ν:Nat→Value}{σ:St}{c:Ctx}{α:Type}{r:α}{next:Act→World→Prop}{Q:Exit→Act→World→Prop}
def Y7(o:Option Value)(d l:Int):Prop:=(o=none∧l=d)∨ ∃k,o=some (.int k l)
theorem qU(hc:Core c σ a.tmps w M ν){x:Option Operand}{d:Int}{k:Int→Option α}(h:yB (x.map σ.ρ) d k=some r): ∃l,k l=some r∧Y7 (x.map a.eval) d l:=by
 cases x with
 |none=>exact⟨d,h,.inl ⟨rfl,rfl⟩⟩
 |some x=>
  obtain⟨i,n,hx,h⟩:=m9 (h:vS (σ.ρ x) (λ_ x=>k x)=some r)
  have hv:=hc.ev x
  rw[hx]at hv
  exact⟨n,h,.inr ⟨i,by rw[←hv.int];rfl⟩⟩
theorem vb{s:Bool}{len cap:Nat}{lo hi mx:Option Value}{l h m:Int}(xY:Y7 lo 0 l)(Lr:Y7 hi len h)(Ls:Y7 mx cap m)(hm:mx.isNone=true∨hi.isSome=true)
  (h0:0≤l) (h1:l≤h) (h2:h≤m) (h3:m≤cap):(Instr.sliceBounds s len cap lo hi mx).run P w= .ok (l.toNat,h.toNat,m.toNat) w:=by
 have hb: ∀(k:IntKind) (i:Int) (y:Nat) cd,0≤i→i≤y→(Instr.sliceBound (.int k i) y cd).run P w= .ok i.toNat w:=by
  intro k i y cd h1 h2
  simp[Instr.sliceBound,asIntOf,h1,h2]
 have jR:((m.toNat:Nat):Int)=m:=ω
 have hh':((h.toNat:Nat):Int)=h:=ω
 rcases Ls with⟨rfl,rfl⟩|⟨km,rfl⟩
 ·rcases Lr with⟨rfl,rfl⟩|⟨kh,rfl⟩
  ·rcases xY with⟨rfl,rfl⟩|⟨kl,rfl⟩
   ·simp[Instr.sliceBounds]
   ·simp[Instr.sliceBounds,hb kl l len _ h0 h1]
  ·rcases xY with⟨rfl,rfl⟩|⟨kl,rfl⟩
   ·simp[Instr.sliceBounds,hb kh h cap _ ω h2]
   ·simp[Instr.sliceBounds,hb kh h cap _ ω h2,hb kl l h.toNat _ h0 ω]
 ·rcases Lr with⟨rfl,rfl⟩|⟨kh,rfl⟩
  ·simp at hm
  ·rcases xY with⟨rfl,rfl⟩|⟨kl,rfl⟩
   ·simp[Instr.sliceBounds,hb km m cap _ ω h3,hb kh h m.toNat _ ω ω]
   ·simp[Instr.sliceBounds,hb km m cap _ ω h3,hb kh h m.toNat _ ω ω,hb kl l h.toNat _ h0 ω]
theorem Hn{ρ:Operand→Value}{t:TypeId}{x:Operand}{lo hi mx:Option Operand}(ho:o.op= .slice t x lo hi mx){s:ByteArray}{l h:Int}(hu:P.underlying t=some .string)(hx:ρ x= .string s)
  (xY:Y7 (lo.map ρ) 0 l) (Lr:Y7 (hi.map ρ) s.size h) (Ls:mx.isNone=true) (h0:0≤l) (h1:l≤h) (h2:h≤s.size):(execOp ρ o).run P w= .ok (.value (.string (s.extract l.toNat h.toNat))) w:=by
 have hm:mx=none:=by simpa using Ls
 subst hm
 have hb:=vb (P:=P) (w:=w) (s:=false) xY Lr (.inl ⟨rfl,rfl⟩) (.inl rfl) h0 h1 h2 (fH _)
 simp[execOp,ho,hx,Instr.sliceAt,Instr.slice,run_underlying hu,hb]
theorem ug{ρ:Operand→Value}{t e:TypeId}{x:Operand}{lo hi mx:Option Operand}(ho:o.op= .slice t x lo hi mx){τ:Ty}{ad:Option Addr}{len cap:Nat}{l h m:Int}(hu:P.underlying t=some (.slice e))(hle:kI P τ e)(hx:ρ x= .slice ad len cap)
  (xY:Y7 (lo.map ρ) 0 l) (Lr:Y7 (hi.map ρ) len h) (Ls:Y7 (mx.map ρ) cap m) (hm:(mx.map ρ).isNone=true∨(hi.map ρ).isSome=true) (h0:0≤l) (h1:l≤h) (h2:h≤m) (h3:m≤cap):
  (execOp ρ o).run P w= .ok (.value (.slice (if m.toNat=l.toNat then ad else ad.map (·.add (l.toNat*τ.size))) (h.toNat-l.toNat) (m.toNat-l.toNat))) w:=by
 have hb:=vb (P:=P) (w:=w) (s:=true) xY Lr Ls hm h0 h1 h2 h3
 simp[execOp,ho,hx,Instr.sliceAt,Instr.slice,run_underlying hu,hb,df hle]
theorem Ck{x:Option Operand}(h:lS x=true)(a:Act): ∃k,x.map a.eval=some (.int k 0):=by
 unfold lS at h
 split at h
 ·rename_i k n
  have:n=0:=by simpa using h
  subst this
  exact⟨k,rfl⟩
 ·cases h
theorem Rd.cut{e:Ty}{ad:Option Addr}{len cap:Nat}{x:List e.den}(h:Rd w M (.slice e) [.slice ad len cap] x){l hh m:Int}(h0:0≤l)(h1:l≤hh)(h2:hh≤m)(hl:hh≤x.length):
  Rd w M (.slice e) [.slice (if m.toNat=l.toNat then ad else ad.map (·.add (l.toNat*e.size))) (hh.toNat-l.toNat) (m.toNat-l.toNat)] (List.drop l.toNat (List.take hh.toNat x)):=by
 simp only[Rd,fh,eS]at h ⊢
 obtain⟨a',nc,hv,hc,hr⟩:=h
 cases hv
 have hlen:List.length (List.drop l.toNat (List.take hh.toNat x))=hh.toNat-l.toNat:=by rw[dV,cc];omega
 refine⟨_,_,by rw[hlen],by rw[hlen];omega,λi hi=> ?_⟩
 rw[hlen]at hi
 obtain⟨b,off,ha,hb,hm,cs,pZ,kV⟩:=hr (l.toNat+i) ω
 rw[ah ω]
 refine⟨b,off+l.toNat*e.size,by rw[ha];simp[Addr.add_lit],hb,hm,cs,?_,?_⟩
 ·rw[show off+l.toNat*e.size+i*e.size=off+(l.toNat+i)*e.size from by rw[eu];omega];exact pZ
 ·simp only[Em,Ep,Er]at kV ⊢
  exact kV
theorem VR.emp{H:Nat→Option bl}{v:Value}:VR w M H ν .emp v↔ ∃ad,v= .slice ad 0 0:=by simp[VR]
theorem VN(hE:EnvTy P E)(hc:Core c σ a.tmps w M ν){t:TypeId}{x:Operand}{lo hi mx:Option Operand}(ho:o.op= .slice t x lo hi mx){K:ja α}{τ:Ty}(ht:E.ty t=some τ)
  (h:qP τ (lo.isNone&&lS hi&&lS mx) (σ.ρ x) (lo.map σ.ρ) (hi.map σ.ρ) (mx.map σ.ρ) σ.H K=some r) (hn:ga c σ a o w M ν K r next):o.wp P a w next Q:=by
 have zQ:=hE.ty t τ ht
 have hv:=hc.ev x
 have PN: ∀(e:Ty) (e':TypeId) (ad:Option Addr) (len cap:Nat),P.underlying t=some (.slice e')→kI P e e'→a.eval x= .slice ad len cap→(lo.isNone&&lS hi&&lS mx)=true→
   ∃ad',(execOp a.eval o).run P w= .ok (.value (.slice ad' 0 0)) w:=by
  intro e e' ad len cap hu hle hx hz
  simp only[bR]at hz
  obtain⟨⟨h1,h2⟩,h3⟩:=hz
  have h1:lo=none:=by simpa using h1
  subst h1
  obtain⟨k2,h2⟩:=Ck h2 a
  obtain⟨k3,h3⟩:=Ck h3 a
  have:=ug (P:=P) (w:=w) ho hu hle hx (l:=0) (h:=0) (m:=0) (.inl ⟨rfl,rfl⟩) (.inr ⟨k2,h2⟩) (.inr ⟨k3,h3⟩) (.inr (by rw[h2];rfl)) ω ω ω ω
  exact⟨_,this⟩
 unfold qP at h
 split at h
 ·rename_i s hx
  obtain⟨hm,h⟩:=cB h
  obtain⟨l,h,xY⟩:=qU hc h
  obtain⟨hh,h,Lr⟩:=qU hc h
  obtain⟨hk,h⟩:=cB h
  rw[zH]at hk
  obtain⟨h0,h1,h2,h3⟩:=bx hk
  rw[hx]at hv
  exact a8 (Hn ho zQ.str hv.str xY Lr (by simpa using hm) h0 h1 h2) (hn _ [] [] _ _ _ _ h (.refl hc.mem) (.mkStr _))
 ·rename_i e hx
  obtain⟨e',hu,hle⟩:=zQ.slice
  rw[hx]at hv
  obtain⟨ad,hv⟩:=VR.emp.1 hv
  cases hz:(lo.isNone&&lS hi&&lS mx)
  ·rw[hz]at h
   replace h:cond (mx.map σ.ρ).isNone (yB (lo.map σ.ρ) 0 λl=>yB (hi.map σ.ρ) 0 λh=>cond (ka l h 0 0) (K .emp [] []) none) none=some r:=h
   obtain⟨hm,h⟩:=cB h
   obtain⟨l,h,xY⟩:=qU hc h
   obtain⟨hh,h,Lr⟩:=qU hc h
   obtain⟨hk,hK⟩:=cB h
   rw[zH]at hk
   obtain⟨h0,h1,h2,h3⟩:=bx hk
   have jR:mx=none:=by simpa using hm
   subst jR
   have:=ug (P:=P) (w:=w) ho hu hle hv xY Lr (.inl ⟨rfl,rfl⟩) (.inl rfl) h0 h1 (m:=0) ω ω
   refine a8 this (hn _ [] [] _ _ _ _ hK (.refl hc.mem) (VR.emp.2 ?_))
   rw[show hh.toNat-l.toNat=0 from by omega,show(0:Int).toNat-l.toNat=0 from by omega]
   exact⟨_,rfl⟩
  ·rw[hz]at h
   obtain⟨ad',dE⟩:=PN e e' ad 0 0 hu hle hv hz
   exact a8 dE (hn _ [] [] _ _ _ _ h (.refl hc.mem) (VR.emp.2 ⟨_,rfl⟩))
 ·rename_i e jB
  obtain⟨e',hu,hle⟩:=zQ.slice
  cases hz:(lo.isNone&&lS hi&&lS mx)
  ·rw[hz]at h
   obtain⟨y,rd,ups,M',h,il,hV,_⟩:=n7 (.refl _) hc.mem hv h
   replace h:cond ((mx.map σ.ρ).isNone||(hi.map σ.ρ).isSome) (yB (lo.map σ.ρ) 0 λl=>yB (hi.map σ.ρ) (List.length y:Int) λh=>yB (mx.map σ.ρ) (List.length y:Int) λm=>
    cond (ka l h m (List.length y:Int)) (K (.val (.slice e) (List.drop l.toNat (List.take h.toNat y))) rd ups) none) none=some r:=h
   obtain⟨hm,h⟩:=cB h
   obtain⟨l,h,xY⟩:=qU hc h
   obtain⟨hh,h,Lr⟩:=qU hc h
   obtain⟨m,h,Ls⟩:=qU hc h
   obtain⟨hk,h⟩:=cB h
   rw[zH]at hk
   obtain⟨h0,h1,h2,h3⟩:=bx hk
   have hr:=V.slice.1 hV
   have eO:=hr
   simp only[Rd,fh,eS]at eO
   obtain⟨ad,cap,hx,alP,_⟩:=eO
   rw[hx]at hr
   have jR:(mx.map a.eval).isNone=true∨(hi.map a.eval).isSome=true:=by
    simp only[m1,Option.isNone_map,Option.isSome_map]at hm ⊢;exact hm
   have ahk: ∃m',Y7 (mx.map a.eval) cap m'∧hh≤m'∧m'≤cap:=by
    rcases Ls with⟨h9,_⟩|⟨k,h9⟩
    ·exact⟨cap,.inl ⟨h9,rfl⟩,ω,fH _⟩
    ·exact⟨m,.inr ⟨k,h9⟩,h2,ω⟩
   obtain⟨m',ahk,h4,h5⟩:=ahk
   have dE:=ug (P:=P) (w:=w) ho hu hle hx xY Lr ahk jR h0 h1 h4 h5
   refine a8 dE (hn _ _ _ _ _ M' _ h il ?_)
   simp only[VR]
   exact V.slice.2 (hr.cut h0 h1 h4 ω)
  ·rw[hz]at h
   obtain⟨y,rd,h,hS⟩:=Cd hc.mem hv h
   obtain⟨ad,cap,hx,_⟩:=hS
   obtain⟨ad',dE⟩:=PN e e' ad _ cap hu hle hx hz
   exact a8 dE (hn _ _ [] _ _ _ _ h (.refl hc.mem) (VR.emp.2 ⟨_,rfl⟩))
 ·cases h
end VM
end
section
namespace VM
open Go
variable{P:Program}{E:Env}{o:Oper}{a:Act}{w:World}{M:Nat→Prop}{ν:Nat→Value}{σ:St}{c:Ctx}{α:Type}{r:α}{next:Act→World→Prop}{Q:Exit→Act→World→Prop}
theorem sr{t ty e:TypeId}{i:TypeInfo}(ht:P.underlying t=some (.slice e))(hi:P.info? e=some i)(base:Option Addr)(n cap:Nat)(h:n≤cap)(a':Option Addr)(cp:Nat):
  (Builtin.append_ #[t,t] ty #[.slice base n cap,.slice a' 0 cp]).run P w= .ok (.slice base n cap) w:=by
 cases a'<;>cases base<;>simp[Builtin.append_,run_underlying ht,Go.sizeOf,typeInfo,hi,Builtin.lenOf,h,Builtin.firstCells,loadCells,loadCellsFrom,storeCells]
theorem Mu{t ty e te:TypeId}{i:TypeInfo}(ht:P.underlying t=some (.slice e))(hi:P.info? e=some i){b n cap m cp:Nat}{a':Addr}{news:List Value}{cs:Array Value}
  (hg:w.heap[b]? =some (.cells cs te (0,0))) (hs:cs.size=cap*i.size) (hl:news.length=m*i.size) (hn: ∀j u,news[j]? =some u→w.cell? (a'.add j)=some u) (h1: ∀u∈news,u.oneCell'=true) (hr:n+m≤cap):
  (Builtin.append_ #[t,t] ty #[.slice (some ⟨b,0,none⟩) n cap,.slice (some a') m cp]).run P w= .ok (.slice (some ⟨b,0,none⟩) (n+m) cap) (w.setRow b (fb cs.toList (n*i.size) news).toArray):=by
 have hf:=run_firstCells_some (P:=P) w i.size m a' m cp news hl hn
 have hm:(n+m)*i.size≤cap*i.size:=lL _ hr
 rw[eu]at hm
 have GZ:=run_storeCells_at (P:=P) b (n*i.size) te news 0 cs w hg ω h1
 simp only[m3]at GZ
 simp[Builtin.append_,run_underlying ht,Go.sizeOf,typeInfo,hi,Builtin.lenOf,hr,hf,Addr.add_lit,GZ,fb]
theorem g9{args:Array Operand}{t:TypeId}{x y:Operand}{v:Value}{w':World}(ho:o.op= .call {callee:= .builtin .append,args,argTypes:= #[t,t]})(ha:args.toList=[x,y])
  (h:(Builtin.append_ #[t,t] o.type #[a.eval x,a.eval y]).run P w= .ok v w'):(execOp a.eval o).run P w= .ok (.value v) w':=by
 obtain⟨cs,hr⟩:=qR (P:=P) (ρ:=a.eval) ho (w:=w)
 rw[hr]
 have:args.map a.eval= #[a.eval x,a.eval y]:=by apply jq;simp[ha]
 rw[this]
 simp[builtin,h]
theorem EW{H:Nat→Option bl}(hm:Mem c H w M ν){id:Nat}(bf:H id=none){t ty:TypeId}{e':TypeId}{e:Ty}(hu:P.underlying t=some (.slice e'))(hle:kI P e e')
  {xs ys:List e.den} {olds news:List Value} {base:Option Addr} {cap cp:Nat} {a':Addr} (VO:base=none→xs=[]∧cap=0)
  (xY:olds.length=xs.length*e.size) (hro:qS w M e olds xs) (ho: ∀b,base=some b→ ∀j u,olds[j]? =some u→w.cell? (b.add j)=some u)
  (Y8:news.length=ys.length*e.size) (hrn:qS w M e news ys) (hn: ∀j u,news[j]? =some u→w.cell? (a'.add j)=some u)
  (hg:cap<xs.length+ys.length) (hs:xs.length+ys.length<zG):
  ∃v w' M' ν',(Builtin.append_ #[t,t] ty #[.slice base xs.length cap,.slice (some a') ys.length cp]).run P w= .ok v w'∧Tr c H w M ν (bY H id (some (.own e (xs++ys)))) w' M' ν'∧ν' id=v:=by
 obtain⟨i,hi,sZ,hz,hby⟩:=hle.base
 have hzs:(cK e e.dj).cells.size=e.size:=by rw[←bI,gT,oK]
 have h63:xs.length+ys.length≤maxLen:=by simp only[zG,maxLen]at hs ⊢;omega
 have Mv:(xs.length+ys.length)*i.bytes≤140737488355328:=by
  have:(xs.length+ys.length)*i.bytes≤68719476736*2048:=vN (by simp only[zG]at hs;omega) hby
  omega
 have dE: ∃nc rest,(Builtin.append_ #[t,t] ty #[.slice base xs.length cap,.slice (some a') ys.length cp]).run P w= .ok (.slice (some ⟨w.heap.size,0,none⟩) (xs.length+ys.length) nc) (w.drew.alloc (.cells (olds++news++rest).toArray e'))∧
   xs.length+ys.length≤nc∧nc≤maxLen∧rest.length=(nc-(xs.length+ys.length))*e.size:=by
  refine⟨grownCap w (xs.length+ys.length) cap e',(Builtin.zeroCells (cK e e.dj).cells (grownCap w (xs.length+ys.length) cap e'-(xs.length+ys.length))).toList,?_,grownCap_ge _ _ _ _,grownCap_le_maxLen _ _ _ _ h63,?_⟩
  ·cases base with
   |none=>
    obtain⟨rfl,rfl⟩:=VO rfl
    have ho0:olds=[]:=tT (by rw[xY];simp)
    subst ho0
    have:=run_append_nil (P:=P) w t ty e' i _ hu hi hz a' ys.length cp news (by rw[Y8,sZ]) hn (by simpa using hg) (by simp only[zG]at hs;omega) (by simp at Mv;omega)
    simp only[bU,gi,cJ]
    rw[this]
    congr 2
    apply fi (λz=>Obj.cells z e' (0,0))
    apply jq;simp
   |some b=>
    have:=run_append_grow (P:=P) w t ty e' i _ hu hi hz b xs.length cap olds (by rw[xY,sZ]) (ho b rfl) a' ys.length cp news (by rw[Y8,sZ]) hn hg (by simp only[zG]at hs;omega) (growslice_fits hg Mv)
    rw[this]
    congr 2
    apply fi (λz=>Obj.cells z e' (0,0))
    apply jq;simp
  ·rw[bI,size_zeroCells,hzs]
 obtain⟨nc,rest,dE,Lq,hc2,alU⟩:=dE
 have hlen:(xs++ys).length=xs.length+ys.length:=aS
 have hd:=Tr.drew hm
 have hon:(olds++news).length=(xs++ys).length*e.size:=by rw[aS,xY,Y8,hlen,eu]
 have P9:=Tr.row hd.mem bf e' (e:=e) (cs:=(olds++news++rest).toArray) (l:=xs++ys) (cap:=nc) (by rw[hlen];exact Lq) hc2
  (by rw[iX,aS,hon,alU,hlen,←eu];congr 1;omega)
  (qS.more ((hro.append xY hrn).ca hd.ca) (by rw[hon];exact aG _))
 refine⟨_,_,_,_,dE,hd.trans P9,?_⟩
 rw[←hlen];simp[dh]
theorem Ti(hE:EnvTy P E)(hc:Core c σ a.tmps w M ν){args:Array Operand}{ts:Array TypeId}{t t':TypeId}{x y:Operand}(ho:o.op= .call {callee:= .builtin .append,args,argTypes:=ts})(ha:args.toList=[x,y])(hts:ts.toList=[t,t']){K:ja α}{e:Ty}
  (ht:E.ty t=some (.slice e)) {id:Nat} (h:cond (Nat.beq t t') (qN σ.H id (.own e []) (Md id e (σ.ρ x) (σ.ρ y) σ.H K)) none=some r) (hn:ga c σ a o w M ν K r next):o.wp P a w next Q:=by
 obtain⟨htt,h1⟩:=cB h
 clear h
 have htt:=fV htt
 subst htt
 obtain⟨bf,h⟩:=ll h1
 clear h1
 have ark:ts= #[t,t]:=by apply jq;simpa using hts
 subst ark
 obtain⟨e',hu,hle⟩:=(hE.ty t _ ht).slice
 obtain⟨i,hi,sZ,hz,hby⟩:=hle.base
 have JX:=hc.ev x
 unfold Md at h
 obtain⟨ys,rd,h,hS⟩:=Cd hc.mem (hc.ev y) h
 have ahn:(ys=[]∧ ∃a' cp,a.eval y= .slice a' 0 cp)∨(ys≠[]∧ ∃a' cp news,a.eval y= .slice (some a') ys.length cp∧news.length=ys.length*e.size∧(∀j u,news[j]? =some u→w.cell? (a'.add j)=some u)∧qS w M e news ys∧ ∀u∈news,u.oneCell'=true):=by
  by_cases hy:ys=[]
  ·left
   obtain⟨a',cp,hv,_⟩:=hS
   exact⟨hy,a',cp,by rw[hv,hy];rfl⟩
  ·right
   obtain⟨b,off,cp,news,hv,hl,pZ,kV,h1⟩:=hS.cells hy
   exact⟨hy,⟨b,off,none⟩,cp,news,hv,hl,λj u hj=>by rw[Addr.add_lit];exact pZ j u hj,kV,h1⟩
 split at h
 ·
  rename_i hx
  rw[hx]at JX
  obtain⟨ad,JX⟩:=VR.emp.1 JX
  obtain⟨RH,h⟩:=cB h
  rw[EF]at RH
  have RH:=bx RH
  rcases ahn with⟨rfl,a',cp,Dd⟩|⟨hy,a',cp,news,Dd,hl,pZ,kV,h1⟩
  ·refine a8 (g9 ho ha (by rw[JX,Dd];exact sr hu hi ad 0 0 (aG _) a' cp)) (hn _ _ _ _ _ _ _ h (Tr.nothing hc.mem bf e ad) ?_)
   simp only[VR]
   exact⟨by show bY _ id _ id≠none;rw[ay];simp,by simp[dh]⟩
  ·have Ho:0<ys.length:=si.2 hy
   obtain⟨v,w',M',ν',dE,il,hv⟩:=EW (P:=P) (ty:=o.type) hc.mem bf hu hle (xs:=[]) (ys:=ys) (olds:=[]) (news:=news) (base:=ad) (cap:=0) (cp:=cp) (a':=a') (λ_=>⟨rfl,rfl⟩) (by simp) (λi hi=>absurd hi (by simp)) (λ_ _ j u hj=>by simp at hj)
    hl kV pZ (by simpa using Ho) (by simpa using RH)
   refine a8 (g9 ho ha (by rw[JX,Dd];exact dE)) (hn _ _ _ _ _ _ _ h il ?_)
   simp only[VR]
   exact⟨by show bY _ id _ id≠none;rw[ay];simp,hv.symm⟩
 ·
  rename_i j hx
  rw[hx]at JX
  simp only[VR]at JX
  obtain⟨_,JX⟩:=JX
  split at h
  ·rename_i e1 l hj
   obtain⟨e2,h⟩:=bB h
   cases e2
   obtain⟨RH,h⟩:=cB h
   rw[EF]at RH
   have RH:l.length+ys.length<zG:=bx RH
   have jB:id≠j:=λe=>by rw[e,hj]at bf;cases bf
   have px:bY σ.H j (some .gone) id=none:=by rw[az _ _ jB];exact bf
   have PO:=Tr.gone hc.mem j
   have mL:=hc.mem.kZ j _ hj
   simp only[ER]at mL
   rcases mL with⟨rfl,ad,hjv⟩|⟨b,cs,te,cap,hjv,hg,hM,Vf,hl,GX,hs,hr⟩
   ·rw[hjv]at JX
    rcases ahn with⟨rfl,a',cp,Dd⟩|⟨hy,a',cp,news,Dd,hl,pZ,kV,h1⟩
    ·refine a8 (g9 ho ha (by rw[JX,Dd];exact sr hu hi ad 0 0 (aG _) a' cp)) (hn _ _ _ _ _ _ _ h (PO.trans (Tr.nothing PO.mem px e ad)) ?_)
     simp only[VR]
     exact⟨by show bY _ id _ id≠none;rw[ay];simp,by simp[dh]⟩
    ·have Ho:0<ys.length:=si.2 hy
     obtain⟨v,w',M',ν',dE,il,hv⟩:=EW (P:=P) (ty:=o.type) PO.mem px hu hle (xs:=[]) (ys:=ys) (olds:=[]) (news:=news) (base:=ad) (cap:=0) (cp:=cp) (a':=a') (λ_=>⟨rfl,rfl⟩) (by simp) (λi hi=>absurd hi (by simp)) (λ_ _ j u hj=>by simp at hj)
      hl kV pZ (by simpa using Ho) (by simpa using RH)
     refine a8 (g9 ho ha (by rw[JX,Dd];exact dE)) (hn _ _ _ _ _ _ _ h (PO.trans il) ?_)
     simp only[VR]
     exact⟨by show bY _ id _ id≠none;rw[ay];simp,hv.symm⟩
   ·rw[hjv]at JX
    have Mn:cs.toList.length=cap*e.size:=by rw[bI,hs]
    have G4:l.length*e.size≤cap*e.size:=lL _ hl
    rcases ahn with⟨rfl,a',cp,Dd⟩|⟨hy,a',cp,news,Dd,Y8,pZ,kV,h1⟩
    ·refine a8 (g9 ho ha (by rw[JX,Dd];exact sr hu hi _ _ cap hl a' cp)) (hn _ _ _ _ _ M (dh ν id (ν j)) h ?_ ?_)
     ·refine Tr.rename hc.mem hj bf (.inr rfl) ?_
      rw[ch]
      exact hc.mem.kZ j _ hj
     ·simp only[VR]
      exact⟨by show bY _ id _ id≠none;rw[ay];simp,by simp[dh,hjv]⟩
    ·by_cases zX:l.length+ys.length≤cap
     ·have hmul:(l.length+ys.length)*e.size≤cap*e.size:=lL _ zX
      rw[eu]at hmul
      have dE:=Mu (P:=P) (ty:=o.type) hu hi (w:=w) (b:=b) (n:=l.length) (cap:=cap) (m:=ys.length) (cp:=cp) (a':=a') (news:=news) (cs:=cs) hg (by rw[hs,sZ]) (by rw[Y8,sZ]) pZ h1 zX
      rw[sZ]at dE
      have Zt:fb cs.toList (l.length*e.size) news=(cs.toList.take (l.length*e.size)++news)++cs.toList.drop (l.length*e.size+news.length):=rfl
      have hold:qS w M e (cs.toList.take (l.length*e.size)) l:=qS.take hr (aG _)
      have htl:(cs.toList.take (l.length*e.size)).length=l.length*e.size:=by rw[cc];omega
      have af0:qS w M e (fb cs.toList (l.length*e.size) news) (l++ys):=by
       rw[Zt]
       refine qS.more (hold.append htl kV) ?_
       rw[aS,aS,htl,Y8,eu];exact aG _
      have Hp:(fb cs.toList (l.length*e.size) news).length=cap*e.size:=by rw[gC ω];exact Mn
      have ZC:Tr c σ.H w M ν (bY σ.H j (some (.own e l))) (w.setRow b (fb cs.toList (l.length*e.size) news).toArray) M ν:=by
       refine Tr.write (e':= .own e l) hc.mem hj trivial trivial (.refl _) (by rw[hjv];simp[fK];omega) hg λPL hk Bf=> ?_
       simp only[ER]
       refine .inr ⟨b,_,te,cap,hjv,setRow_heap w b cs _ te _ hg,Bf,Vf,hl,GX,by rw[iX];exact Hp,λk Hj=> ?_⟩
       have:=(af0 k (by rw[aS];omega)).ca hk
       rw[Ef Hj]at this
       exact this
      rw[Bd hj]at ZC
      have we:Tr c σ.H (w.setRow b (fb cs.toList (l.length*e.size) news).toArray) M ν (bY (bY σ.H j (some .gone)) id (some (.own e (l++ys)))) (w.setRow b (fb cs.toList (l.length*e.size) news).toArray) M (dh ν id (.slice (some ⟨b,0,none⟩) (l++ys).length cap)):=by
       refine Tr.rename ZC.mem hj bf (.inr (by rw[hjv];simp[fK])) ?_
       simp only[ER]
       refine .inr ⟨b,_,te,cap,rfl,setRow_heap w b cs _ te _ hg,hM,Vf,by rw[aS];exact zX,GX,by rw[iX];exact Hp,(af0.ca ZC.ca)⟩
      refine a8 (g9 ho ha (by rw[JX,Dd];exact dE)) (hn _ _ _ _ _ _ _ h (ZC.trans we) ?_)
      simp only[VR]
      exact⟨by show bY _ id _ id≠none;rw[ay];simp,by simp[dh]⟩
     ·obtain⟨v,w',M',ν',dE,il,hv⟩:=EW (P:=P) (ty:=o.type) PO.mem px hu hle (xs:=l) (ys:=ys) (olds:=cs.toList.take (l.length*e.size)) (news:=news) (base:=some ⟨b,0,none⟩) (cap:=cap) (cp:=cp) (a':=a') (λh=>by cases h)
       (by rw[cc];omega) (qS.take hr (aG _)) (λb' eY k u hk=>by
        cases eY
        rw[Addr.add_lit,cell_of hg]
        rw[lO]at hk
        split at hk
        ·rw[←gR];simpa using hk
        ·cases hk)
       Y8 kV pZ ω RH
      refine a8 (g9 ho ha (by rw[JX,Dd];exact dE)) (hn _ _ _ _ _ _ _ h (PO.trans il) ?_)
      simp only[VR]
      exact⟨by show bY _ id _ id≠none;rw[ay];simp,hv.symm⟩
  ·cases h
 ·cases h
end VM
end
section
namespace VM
open Go
variable{P:Program}{E:Env}{o:Oper}{a:Act}{w:World}{M:Nat→Prop}{ν:Nat→Value}{σ:St}{c:Ctx}{α:Type}{r:α}{next:Act→World→Prop}{Q:Exit→Act→World→Prop}
def s0:{m:AM}→{ms:List AM}→HP (m::ms)→m.den
 |_,[],x=>x
 |_,_::_,x=>x.1
def xZ:{m:AM}→{ms:List AM}→HP (m::ms)→HP ms
 |_,[],_=>()
 |_,_::_,x=>x.2
def AM.iC:AM→Bool
 | .io _| .lo _=>true
 |_=>false
def AM.ZD:AM→Bool
 | .fn _ _| .jo _=>true
 |_=>false
def A1(w:World)(M:Nat→Prop):(m:AM)→m.den→Value→Prop
 | .v τ,x,v=>V w M τ v x
 | .own e,x,v=>ER w M v (.own e x)
 | .io τ,x,v=>ER w M v (.obj τ x)
 | .fn f τ,x,v=>VR w M (λ_=>none) (λ_=>undef) (.L9 f (pO τ x)) v
 | .ptr τ,x,v=>ER w M v (.obj τ x)
 | .jo τ,x,v=>VR w M (λ_=>none) (λ_=>undef) (.qM τ x) v
 | .lo e,x,v=>ER w M v (.own e x)
def jI(w:World)(M:Nat→Prop):(ms:List AM)→HP ms→List Value→Prop
 |[],_,vs=>vs=[]
 |_::ms,x,vs=> ∃v Lt,vs=v::Lt∧A1 w M _ (s0 x) v∧jI w M ms (xZ x) Lt
def da:AM→Value→List Nat
 | .own _,v| .io _,v| .ptr _,v| .lo _,v=>(fK v).toList
 |_,_=>[]
def dR:List AM→List Value→List Nat
 |m::ms,v::vs=>da m v++dR ms vs
 |_,_=>[]
def fj:List AM→List Value→List Value
 |m::ms,v::vs=>if m.iC then v::fj ms vs else fj ms vs
 |_,_=>[]
def nf:List AM→List AM
 | .io τ::ms=> .io τ::nf ms
 | .lo e::ms=> .lo e::nf ms
 |_::ms=>nf ms
 |[]=>[]
def RR(w:World)(M:Nat→Prop):(ms:List AM)→HP ms→List Value→List Value→Prop
 |[],_,vs,ps=>vs=[]∧ps=[]
 |m::ms,x,vs,ps=>(∃p G6,m.iC=true∧ps=p::G6∧A1 w M m (s0 x) p∧RR w M ms (xZ x) vs G6)∨
  (∃v Lt,m.iC=false∧m.ZD=false∧vs=v::Lt∧A1 w M m (s0 x) v∧RR w M ms (xZ x) Lt ps)
def bG:List AM→List Value→List Value→List Nat
 |[],_,_=>[]
 |m::ms,vs,ps=>if m.iC then da m (ps.headD undef)++bG ms vs ps.tail else da m (vs.headD undef)++bG ms vs.tail ps
def Ty.flat:Ty→Bool
 | .slice _=>false
 | .pair a b=>a.flat&&b.flat
 | .arr _ e=>e.flat
 |_=>true
def AM.flat:AM→Bool
 | .v τ| .io τ| .own τ| .ptr τ| .lo τ=>τ.flat
 | .fn _ _| .jo _=>false
def wj(vs:List Value):Value:=if h:vs.length=1 then vs[0]else .tuple vs.toArray
structure Left(w:World)(M0:Nat→Prop)(hs:List Nat)(w':World)(M':Nat→Prop):Prop where
 sub: ∀b,M0 b→M' b
 EI: ∀b,M' b→b<w'.heap.size
 less: ∀b,b<w.heap.size→M' b→M0 b∨b∈hs
 frame: ∀b,b<w.heap.size→b∉hs→w'.heap[b]? =w.heap[b]?
 size:w.heap.size≤w'.heap.size
 os:w'.os=w.os
 tape:w'.tape=w.tape
 output:w'.output=w.output
def Mw(P:Program)(f:FuncId)(args:Array Value)(w:World)(R:Value→World→Prop):Prop:=
 ∀(o:Oper) (a:Act) (next:Act→World→Prop) (Q:Exit→Act→World→Prop),(∀v w',R v w'→next (a.put o.dst v) w')→o.upon P a next Q ((callFunc f args).run P w)
theorem Mw.mono{f:FuncId}{args:Array Value}{R R':Value→World→Prop}(h:Mw P f args w R)(hr: ∀v w',R v w'→R' v w'):Mw P f args w R':=
 λo a next Q hn=>h o a next Q λv w' hv=>hn v w' (hr v w' hv)
theorem sT{f:FuncId}{fn:Func}{args:Array Value}{R:Value→World→Prop}(hf:P.funcs[f]? =some fn)(hn:(fn.name== "runtime.NumGoroutine")=false)(hb:fn.body.isNone=false)
  (h:Calls P f args w λe w'=> ∃v,e= .returned v∧R v w'):Mw P f args w R:=by
 intro o a next Q wk
 have hn': ¬fn.name= "runtime.NumGoroutine" :=by simpa using hn
 have eY: ¬fn.body=none:=λe=>by rw[e]at hb;cases hb
 have:(callFunc f args).run P w= .ok (.enter f args) w:=by simp[callFunc,hf,hn',eY]
 rw[this,Oper.upon_enter]
 refine Calls.mono h ?_
 rintro e w' ⟨v,rfl,hR⟩
 exact wk v w' hR
theorem Hr{f:FuncId}{args:Array Value}{R:Value→World→Prop}{v:Value}{w':World}(h:(callFunc f args).run P w= .ok (.value v) w')(hR:R v w'):Mw P f args w R:=by
 intro o a next Q wk
 rw[h,Oper.upon_value]
 exact wk v w' hR
structure iD(P:Program)(f:FuncId)(S:lY):Prop where
 quiet:S.quiet=true→S.res.all AM.flat=true
 ios:nf S.args=nf S.res
 call: ∀(M0:Nat→Prop) (w:World) (vs:List Value) (x:HP S.args) (y:HP S.res),(∀b,M0 b→b<w.heap.size)→
  jI w (λb=>M0 b∨b∈dR S.args vs) S.args x vs→(dR S.args vs).Nodup→(∀b∈dR S.args vs,¬M0 b)→S.run x=some y→
  Mw P f vs.toArray w λv w'=> ∃us M',v=wj us∧RR w' M' S.res y us (fj S.args vs)∧Left w M0 (dR S.args vs) w' M'∧
   (bG S.res us (fj S.args vs)).Nodup∧ ∀b∈bG S.res us (fj S.args vs),¬M0 b
theorem Rd.flat{w:World}{M M':Nat→Prop}: ∀{τ:Ty} {cs:List Value} {x:τ.den},τ.flat=true→Rd w M τ cs x→Rd w M' τ cs x
 | .int _,_,_,_,h| .bool,_,_,_,h| .str,_,_,_,h| .unit,_,_,_,h=>h
 | .slice _,_,_,hf,_=>by simp[Ty.flat]at hf
 | .pair a b,_,_,hf,h=>by
  simp only[Ty.flat,bR]at hf
  simp only[Rd]at h ⊢
  obtain⟨c1,c2,rfl,h1,h2⟩:=h
  exact⟨c1,c2,rfl,h1.flat hf.1,h2.flat hf.2⟩
 | .arr n e,_,x,hf,h=>by
  simp only[Ty.flat]at hf
  simp only[Rd]at h ⊢
  obtain⟨hn,S7,hc,rfl,hr⟩:=h
  exact⟨hn,S7,hc,rfl,λi hi m7=>(hr i hi m7).flat hf⟩
theorem A1.flat{w:World}{M M':Nat→Prop}(hM: ∀b,M b→M' b){m:AM}{x:m.den}{v:Value}(hf:m.flat=true)(h:A1 w M m x v):A1 w M' m x v:=by
 cases m with
 |v τ=>
  simp only[A1,V,AM.flat]at h hf ⊢
  split
  ·rename_i ha;rw[aj ha]at h;obtain⟨cs,h1,h⟩:=h;exact⟨cs,h1,h.flat hf⟩
  ·rename_i ha;rw[ah ha]at h;exact h.flat hf
 |own e=>
  simp only[A1,ER,AM.flat]at h hf ⊢
  rcases h with h|⟨b,cs,t,cap,h1,h2,h3,h4,h5,h6,h7,h8⟩
  ·exact .inl h
  ·exact .inr ⟨b,cs,t,cap,h1,h2,hM b h3,h4,h5,h6,h7,λi hi=>(h8 i hi).flat hf⟩
 |io τ=>
  simp only[A1,ER,AM.flat]at h hf ⊢
  obtain⟨b,cs,t,h1,h2,h3,h4⟩:=h
  exact⟨b,cs,t,h1,h2,hM b h3,h4.flat hf⟩
 |fn f τ=>simp[AM.flat]at hf
 |jo τ=>simp[AM.flat]at hf
 |lo e=>
  simp only[A1,ER,AM.flat]at h hf ⊢
  rcases h with h|⟨b,cs,t,cap,h1,h2,h3,h4,h5,h6,h7,h8⟩
  ·exact .inl h
  ·exact .inr ⟨b,cs,t,cap,h1,h2,hM b h3,h4,h5,h6,h7,λi hi=>(h8 i hi).flat hf⟩
 |ptr τ=>
  simp only[A1,ER,AM.flat]at h hf ⊢
  obtain⟨b,cs,t,h1,h2,h3,h4⟩:=h
  exact⟨b,cs,t,h1,h2,hM b h3,h4.flat hf⟩
theorem RR.flat{w:World}{M M':Nat→Prop}(hM: ∀b,M b→M' b): ∀{ms:List AM} {x:HP ms} {vs ps:List Value},ms.all AM.flat=true→RR w M ms x vs ps→RR w M' ms x vs ps
 |[],_,_,_,_,h=>h
 |m::ms,x,vs,ps,hf,h=>by
  simp only[Ez,bR]at hf
  simp only[RR]at h ⊢
  rcases h with⟨p,G6,h1,h2,h3,h4⟩|⟨v,Lt,h1,h2,h3,h4,h5⟩
  ·exact .inl ⟨p,G6,h1,h2,h3.flat hM hf.1,RR.flat hM hf.2 h4⟩
  ·exact .inr ⟨v,Lt,h1,h2,h3,h4.flat hM hf.1,RR.flat hM hf.2 h5⟩
theorem A1.wm{w w':World}{M M':Nat→Prop}(k:e8 w M w' M'){m:AM}{x:m.den}{v:Value}(hm: ∀b∈da m v,w'.heap[b]? =w.heap[b]? ∧M' b)(h:A1 w M m x v):A1 w' M' m x v:=by
 cases m with
 |v τ=>exact V.ca k h
 |own e=>
  simp only[A1]at h ⊢
  exact ER.ca k (λ_ b hb=>hm b (by simp[da,hb])) h
 |io τ=>
  simp only[A1]at h ⊢
  exact ER.ca k (λ_ b hb=>hm b (by simp[da,hb])) h
 |fn f τ=>exact VR.ca k (.refl _ _) h
 |jo τ=>exact VR.ca k (.refl _ _) h
 |lo e=>
  simp only[A1]at h ⊢
  exact ER.ca k (λ_ b hb=>hm b (by simp[da,hb])) h
 |ptr τ=>
  simp only[A1]at h ⊢
  exact ER.ca k (λ_ b hb=>hm b (by simp[da,hb])) h
theorem jI.wm{w w':World}{M M':Nat→Prop}(k:e8 w M w' M'): ∀{ms:List AM} {x:HP ms} {vs:List Value},(∀b∈dR ms vs,w'.heap[b]? =w.heap[b]? ∧M' b)→jI w M ms x vs→jI w' M' ms x vs
 |[],_,_,_,h=>h
 |m::ms,x,vs,hm,h=>by
  simp only[jI]at h ⊢
  obtain⟨v,Lt,rfl,h1,h2⟩:=h
  exact⟨v,Lt,rfl,h1.wm k (λb hb=>hm b (by simp[dR,hb])),jI.wm k (λb hb=>hm b (by simp[dR,hb])) h2⟩
theorem RR.wm{w w':World}{M M':Nat→Prop}(k:e8 w M w' M'): ∀{ms:List AM} {x:HP ms} {us ps:List Value},(∀b∈bG ms us ps,w'.heap[b]? =w.heap[b]? ∧M' b)→RR w M ms x us ps→RR w' M' ms x us ps
 |[],_,_,_,_,h=>h
 |m::ms,x,us,ps,hm,h=>by
  simp only[RR]at h ⊢
  rcases h with⟨p,G6,h1,rfl,h2,h3⟩|⟨v,J1,h1,h2,rfl,h3,h4⟩
  ·simp only[bG,h1,gA,s7,s9,bb]at hm
   exact .inl ⟨p,G6,h1,rfl,h2.wm k (λb hb=>hm b (.inl hb)),RR.wm k (λb hb=>hm b (.inr hb)) h3⟩
  ·simp only[bG,h1,iW,eT,s7,s9,bb]at hm
   exact .inr ⟨v,J1,h1,h2,rfl,h3.wm k (λb hb=>hm b (.inl hb)),RR.wm k (λb hb=>hm b (.inr hb)) h4⟩
theorem DS{H:Nat→Option bl}(hm:Mem c H w M ν){a:bC}{v:Value}(hv:VR w M H ν a v){τ:Ty}{k:τ.den→List Nat→iV→Option α}{r:α}(h:lX true a H τ k=some r):
  ∃y rd ups,k y rd ups=some r∧((ups=[]∧V w M τ v y)∨ ∃id e l,ups=[(id,some (.oI e l))]∧H id=some (.own e l)∧
   ∀M',(∀b,M' b↔(M b∧fK (ν id)≠some b))→V w M' τ v y):=by
 unfold lX at h
 split at h
 ·obtain⟨e,h⟩:=bB h
  subst e
  simp only[VR]at hv
  exact⟨_,[],[],h,.inl ⟨rfl,hv⟩⟩
 ·obtain⟨e,h⟩:=bB h
  subst e
  simp only[VR]at hv
  exact⟨_,[],[],h,.inl ⟨rfl,hv.1⟩⟩
 ·split at h
  ·rename_i e k' _
   simp only[VR]at hv
   obtain⟨a,rfl⟩:=hv
   refine⟨[],[],[],h,.inl ⟨rfl,V.slice.2 ?_⟩⟩
   simp only[Rd]
   exact⟨a,0,rfl,aG _,λi hi=>absurd hi (by simp)⟩
  ·cases h
 ·rename_i id
  simp only[VR]at hv
  obtain⟨_,rfl⟩:=hv
  split at h
  ·rename_i e l bf
   obtain⟨e',h⟩:=bB h
   subst e'
   refine⟨_,_,_,h,.inr ⟨id,e,l,rfl,bf,λM' hM'=> ?_⟩⟩
   obtain⟨M2,_,hV,JT⟩:=Tr.freeze hm bf
   have:M'=M2:=by funext b;exact propext ((hM' b).trans (JT b).symm)
   rw[this];exact hV
  ·rename_i e l bf
   obtain⟨e',h⟩:=bB h
   subst e'
   have:=hm.kZ id _ bf
   simp only[ER]at this
   exact⟨_,_,_,h,.inl ⟨rfl,V.slice.2 this.1⟩⟩
  ·cases h
 ·cases h
theorem VP{H:Nat→Option bl}(hm:Mem c H w M ν): ∀{a:Ty} {x:bC} {v:Value} {k:a.den→List Nat→iV→Option α} {r:α},VR w M H ν x v→B8 x H a k=some r→
  ∃y rd ups,k y rd ups=some r∧(ups=[]→VR w M (λ_=>none) (λ_=>undef) (B9 a y) v):=by
 intro a x v k r hv h
 unfold B8 at h
 split at h
 ·rename_i a k
  split at h
  ·rename_i υ z
   obtain⟨e1,h⟩:=bB h
   subst e1
   refine⟨_,_,_,h,λ_=> ?_⟩
   simp only[B9,VR]at hv ⊢
   exact hv
  ·cases h
 ·rename_i k0 vA
  obtain⟨y,rd,ups,h,hy⟩:=DS hm hv h
  refine⟨y,rd,ups,h,λhu=> ?_⟩
  rcases hy with⟨_,hy⟩|⟨_,_,_,h3,_⟩
  ·have:B9 _ y= .val _ y:=by
    unfold B9
    split
    ·exact(vA _ _ rfl HEq.rfl).elim
    ·rfl
   rw[this]
   simp only[VR];exact hy
  ·rw[hu]at h3;cases h3
theorem EX{H:Nat→Option bl}(hm:Mem c H w M ν): ∀{τ:Ty} {pX:List bC} {vs:List Value} {k:τ.den→List Nat→iV→Option α} {r:α},jr w M H ν pX vs→qO H τ pX k=some r→
  ∃x rd ups,k x rd ups=some r∧(ups=[]→jr w M (λ_=>none) (λ_=>undef) (pO τ x) vs)
 | .unit,[],[],k,r,_,h=>⟨(),[],[],h,λ_=>by simp[pO,jr]⟩
 | .pair a b,x::xs,v::vs,k,r,hv,h=>by
  simp only[jr]at hv
  unfold qO at h
  obtain⟨y,rd,ups,h,hy⟩:=VP hm hv.1 h
  obtain⟨ys,Ba,n0,h,hys⟩:=EX hm hv.2 h
  refine⟨(y,ys),_,_,h,λhu=> ?_⟩
  have h1:ups=[]:=(LX.1 hu).1
  have h2:n0=[]:=(LX.1 hu).2
  simp only[pO,jr]
  exact⟨hy h1,hys h2⟩
 | .unit,[],_::_,_,_,hv,_=>by simp[jr]at hv
 |_,_::_,[],_,_,hv,_=>by simp[jr]at hv
 | .unit,_::_,_,_,_,_,h=>by simp[qO]at h
 | .pair _ _,[],_,_,_,_,h=>by simp[qO]at h
 | .int _,_,_,_,_,_,h| .bool,_,_,_,_,_,h| .str,_,_,_,_,_,h| .slice _,_,_,_,_,_,h| .arr _ _,_,_,_,_,_,h=>by simp[qO]at h
end VM
end
section
namespace VM
open Go
variable{P:Program}{E:Env}{o:Oper}{a:Act}{w:World}{M:Nat→Prop}{ν:Nat→Value}{σ:St}{c:Ctx}{α:Type}{r:α}{next:Act→World→Prop}{Q:Exit→Act→World→Prop}
def keys{β:Type}(l:List (Nat×β)):List Nat:=l.map (·.1)
theorem lx{i:Nat}: ∀{ups:iV} {H:Nat→Option bl},i∉keys ups→c4 H ups i=H i
 |[],_,_=>rfl
 |u::r,H,h=>by
  simp only[keys,bV,aW,not_or]at h
  show c4 (bY H u.1 u.2) r i=_
  rw[lx h.2,az _ _ h.1]
theorem zY(u:Nat×Option bl)(b:iV)(hb:u.1∉keys b): ∀(a:iV) (H:Nat→Option bl),c4 H (a++u::b)=bY (c4 H (a++b)) u.1 u.2
 |[],H=>by
  show c4 (bY H u.1 u.2) b=bY (c4 H b) u.1 u.2
  induction b generalizing H with
  |nil=>rfl
  |cons v b ih=>
   simp only[keys,bV,aW,not_or]at hb
   show c4 (bY (bY H u.1 u.2) v.1 v.2) b=bY (c4 (bY H v.1 v.2) b) u.1 u.2
   rw[←ih hb.2]
   congr 1
   funext i
   by_cases h1:i=v.1
   ·subst h1;rw[ay,az _ _ (eJ hb.1),ay]
   ·by_cases h2:i=u.1
    ·subst h2;rw[az _ _ h1,ay,ay]
    ·rw[az _ _ h1,az _ _ h2,az _ _ h2,az _ _ h1]
 |v::a,H=>zY u b hb a (bY H v.1 v.2)
def IoE(H:Nat→Option bl)(q:Nat×AM):Prop:=(∃(τ:Ty) (x:τ.den),q.2= .io τ∧H q.1=some (.obj τ x))∨ ∃(e:Ty) (l:List e.den),q.2= .lo e∧H q.1=some (.own e l)
theorem IoE.some{H:Nat→Option bl}{q:Nat×AM}(h:IoE H q):H q.1≠none:=by
 rcases h with⟨_,x,_,h⟩|⟨e,l,_,h⟩<;>rw[h]<;>simp
structure jJ(c:Ctx)(w:World)(M:Nat→Prop)(ν:Nat→Value)(H0 H1 Hq:Nat→Option bl)(M1:Nat→Prop)(uo uf:iV)(io:List (Nat×AM))(hs:List Nat):Prop where
 mem:Mem c H1 w M1 ν
 My:Mem c Hq w M ν
 ca:e8 w M w M1
 ext: ∀i,i∉keys io→c4 H0 (uo++uf) i=H1 i
 VQ: ∀i,i∉keys io→c4 H0 uo i=Hq i
 Tj: ∀q∈io,H1 q.1=some .gone∧Hq q.1=some .gone∧IoE H0 q
 ion:(keys io).Nodup
 ks: ∀i∈keys (uo++uf),∀e l,H1 i≠some (.own e l)
 ksn: ∀i∈keys (uo++uf),i∉keys io∧ ∃e l,H0 i=some (.own e l)
 fz:Fz Hq H1
 uov: ∀u∈uo,u.2=some .gone
 ufv: ∀u∈uf,∃e l,u.2=some (.oI e l)∧H0 u.1=some (.own e l)
 nd:hs.Nodup
 hM: ∀b∈hs,M1 b
 Mz: ∀b∈hs,c.B≤b∨c.may b
 none: ∀b∈hs,∀i e,Hq i=some e→e.mut→fK (ν i)≠some b
 iob: ∀b∈hs,c.M0 b→ ∃q∈io,fK (ν q.1)=some b
 same: ∀i,i∉keys (uo++uf)→i∉keys io→H1 i=H0 i
theorem jJ.start{H:Nat→Option bl}(hm:Mem c H w M ν):jJ c w M ν H H H M [] [] [] []:=
 ⟨hm,hm,.refl w M,λ_ _=>rfl,λ_ _=>rfl,λq hq=>by simp at hq,by simp[keys],λi hi=>by simp[keys]at hi,λi hi=>by simp[keys]at hi,.refl H,λu hu=>by simp at hu,λu hu=>by simp at hu,by simp,λb hb=>by simp at hb,λb hb=>by simp at hb,λb hb=>by simp at hb,λb hb=>by simp at hb,λ_ _ _=>rfl⟩
theorem Fz.ZE{H H1:Nat→Option bl}(h:Fz H H1){i:Nat}{e:Ty}{l:List e.den}(hi:H1 i=some (.own e l)):H i=some (.own e l):=by
 rcases h i with h'|⟨e',l',_,h'⟩
 ·rw[←h',hi]
 ·rw[hi]at h';cases h'
theorem Fz.alY{H H1:Nat→Option bl}(h:Fz H H1){i:Nat}{e:Ty}{l:e.den}(hi:H1 i=some (.obj e l)):H i=some (.obj e l):=by
 rcases h i with h'|⟨e',l',_,h'⟩
 ·rw[←h',hi]
 ·rw[hi]at h';cases h'
theorem Fz.mut{H H1:Nat→Option bl}(h:Fz H H1){i:Nat}{e:bl}(hi:H1 i=some e)(hm:e.mut):H i=some e:=by
 cases e with
 |obj=>exact h.alY hi
 |gd=>
  rcases h i with h'|⟨e',l',_,h'⟩
  ·rw[←h',hi]
  ·rw[hi]at h';cases h'
 |own=>exact h.ZE hi
 |oI=>simp[bl.mut]at hm
 |gone=>simp[bl.mut]at hm
theorem jJ.freeze{H0 H1 Hq:Nat→Option bl}{M1:Nat→Prop}{uo uf:iV}{io:List (Nat×AM)}{hs:List Nat}(h:jJ c w M ν H0 H1 Hq M1 uo uf io hs){id:Nat}{e:Ty}{l:List e.den}(bf:H1 id=some (.own e l)):
  ∃M2,jJ c w M ν H0 (bY H1 id (some (.oI e l))) Hq M2 uo ((id,some (.oI e l))::uf) io hs∧e8 w M1 w M2∧(∀b,M2 b↔(M1 b∧fK (ν id)≠some b)):=by
 obtain⟨M2,il,_,JT⟩:=Tr.freeze h.mem bf
 have vd:id∉keys io:=λhk=>by
  obtain⟨q,hq,rfl⟩:=cD.1 hk
  have:=(h.Tj q hq).1
  rw[bf]at this;cases this
 have Vh:id∉keys (uo++uf):=λhk=>h.ks id hk e l bf
 have ahq:id∉keys uf:=λhk=>Vh (by simp only[keys,cY,bb];exact .inr hk)
 have h0:H0 id=some (.own e l):=by rw[←h.same id Vh vd];exact bf
 have hq:Hq id=some (.own e l):=h.fz.ZE bf
 have ln: ∀i,i∈keys (uo++(id,some (bl.oI e l))::uf)↔i=id∨i∈keys (uo++uf):=by
  intro i
  simp only[keys,cY,bV,bb,aW]
  constructor
  ·rintro(h|h|h)
   ·exact .inr (.inl h)
   ·exact .inl h
   ·exact .inr (.inr h)
  ·rintro(h|h|h)
   ·exact .inr (.inl h)
   ·exact .inl h
   ·exact .inr (.inr h)
 refine⟨M2,⟨il.mem,h.My,h.ca.trans il.ca,λi hi=> ?_,h.VQ,λq nN=> ?_,h.ion,λi hi e' l'=> ?_,λi hi=> ?_,λi=> ?_,h.uov,λu hu=> ?_,h.nd,λb hb=> ?_,h.Mz,h.none,h.iob,λi hi m7=> ?_⟩,il.ca,JT⟩
 ·rw[zY _ _ ahq]
  by_cases bX:i=id
  ·subst bX;rw[ay,ay]
  ·rw[az _ _ bX,az _ _ bX];exact h.ext i hi
 ·obtain⟨h1,h2,h3⟩:=h.Tj q nN
  have jB:q.1≠id:=λe=>vd (e▸eM nN)
  exact⟨by rw[az _ _ jB];exact h1,h2,h3⟩
 ·by_cases bX:i=id
  ·subst bX;rw[ay];intro h';cases h'
  ·rw[az _ _ bX]
   exact h.ks i (((ln i).1 hi).resolve_left bX) e' l'
 ·rcases(ln i).1 hi with rfl|hi
  ·exact⟨vd,e,l,h0⟩
  ·exact h.ksn i hi
 ·by_cases bX:i=id
  ·subst bX;exact .inr ⟨e,l,hq,ay _ _ _⟩
  ·rw[az _ _ bX];exact h.fz i
 ·rcases aW.1 hu with rfl|hu
  ·exact⟨e,l,rfl,h0⟩
  ·exact h.ufv u hu
 ·exact(JT b).2 ⟨h.hM b hb,λeY=>h.none b hb id _ hq trivial eY⟩
 ·have jB:i≠id:=λe=>hi ((ln i).2 (.inl e))
  rw[az _ _ jB]
  exact h.same i (λh'=>hi ((ln i).2 (.inr h'))) m7
theorem jJ.hand{H0 H1 Hq:Nat→Option bl}{M1:Nat→Prop}{uo uf:iV}{io:List (Nat×AM)}{hs:List Nat}(h:jJ c w M ν H0 H1 Hq M1 uo uf io hs){id:Nat}{e:Ty}{l:List e.den}(bf:H1 id=some (.own e l)):
  jJ c w M ν H0 (bY H1 id (some .gone)) (bY Hq id (some .gone)) M1 ((id,some .gone)::uo) uf io (hs++(fK (ν id)).toList):=by
 have vd:id∉keys io:=λhk=>by
  obtain⟨q,hq,rfl⟩:=cD.1 hk
  have:=(h.Tj q hq).1
  rw[bf]at this;cases this
 have Vh:id∉keys (uo++uf):=λhk=>h.ks id hk e l bf
 have ahq:id∉keys uo:=λhk=>Vh (by simp only[keys,cY,bb];exact .inl hk)
 have h0:H0 id=some (.own e l):=by rw[←h.same id Vh vd];exact bf
 have hq:Hq id=some (.own e l):=h.fz.ZE bf
 have ln: ∀i,i∈keys ((id,some bl.gone)::uo++uf)↔i=id∨i∈keys (uo++uf):=by
  intro i
  simp only[keys,cY,bV,lQ,bb,aW]
 have zS: ∀b,fK (ν id)=some b→b∉hs:=λb hb eY=>h.none b eY id _ hq trivial hb
 refine⟨(Tr.gone h.mem id).mem,(Tr.gone h.My id).mem,h.ca,λi hi=> ?_,λi hi=> ?_,λq nN=> ?_,h.ion,λi hi e' l'=> ?_,λi hi=> ?_,λi=> ?_,λu hu=> ?_,h.ufv,?_,λb hb=> ?_,λb hb=> ?_,λb hb i e' hi hm=> ?_,λb hb Y9=> ?_,λi hi m7=> ?_⟩
 ·have:=zY (id,some .gone) (uo++uf) Vh [] H0
  simp only[cJ]at this
  rw[lQ,this]
  by_cases bX:i=id
  ·subst bX;rw[ay,ay]
  ·rw[az _ _ bX,az _ _ bX];exact h.ext i hi
 ·have:=zY (id,some .gone) uo ahq [] H0
  simp only[cJ]at this
  rw[this]
  by_cases bX:i=id
  ·subst bX;rw[ay,ay]
  ·rw[az _ _ bX,az _ _ bX];exact h.VQ i hi
 ·obtain⟨h1,h2,h3⟩:=h.Tj q nN
  have jB:q.1≠id:=λe=>vd (e▸eM nN)
  exact⟨by rw[az _ _ jB];exact h1,by rw[az _ _ jB];exact h2,h3⟩
 ·by_cases bX:i=id
  ·subst bX;rw[ay];intro h';cases h'
  ·rw[az _ _ bX]
   exact h.ks i (((ln i).1 hi).resolve_left bX) e' l'
 ·rcases(ln i).1 hi with rfl|hi
  ·exact⟨vd,e,l,h0⟩
  ·exact h.ksn i hi
 ·by_cases bX:i=id
  ·subst bX;left;rw[ay,ay]
  ·rw[az _ _ bX,az _ _ bX];exact h.fz i
 ·rcases aW.1 hu with rfl|hu
  ·rfl
  ·exact h.uov u hu
 ·refine pV.2 ⟨h.nd,?_,λx hx y hy=> ?_⟩
  ·cases fK (ν id)<;>simp
  ·rw[fg]at hy
   intro Za;subst Za
   exact zS x hy hx
 ·rcases bb.1 hb with hb|hb
  ·exact h.hM b hb
  ·rw[fg]at hb
   exact(h.mem.kZ id _ bf).xU trivial hb
 ·rcases bb.1 hb with hb|hb
  ·exact h.Mz b hb
  ·rw[fg]at hb
   exact h.mem.new id _ b bf trivial hb
 ·by_cases bX:i=id
  ·subst bX;rw[ay]at hi;cases hi;simp[bl.mut]at hm
  ·rw[az _ _ bX]at hi
   rcases bb.1 hb with hb|hb
   ·exact h.none b hb i e' hi hm
   ·rw[fg]at hb
    intro eY
    exact h.My.zL i id e' _ b bX hi hm hq trivial eY hb
 ·rcases bb.1 hb with hb|hb
  ·exact h.iob b hb Y9
  ·rw[fg]at hb
   exact absurd Y9 (h.mem.yC id e l b bf hb)
 ·have jB:i≠id:=λe=>hi ((ln i).2 (.inl e))
  rw[az _ _ jB]
  exact h.same i (λh'=>hi ((ln i).2 (.inr h'))) m7
theorem jJ.ahr{H0 H1 Hq:Nat→Option bl}{M1:Nat→Prop}{uo uf:iV}{io:List (Nat×AM)}{hs:List Nat}(h:jJ c w M ν H0 H1 Hq M1 uo uf io hs){id:Nat}{τ:Ty}{x:τ.den}(bf:H1 id=some (.obj τ x)):
  jJ c w M ν H0 (bY H1 id (some .gone)) (bY Hq id (some .gone)) M1 uo uf (io++[(id,.io τ)]) (hs++(fK (ν id)).toList):=by
 have vd:id∉keys io:=λhk=>by
  obtain⟨q,hq,rfl⟩:=cD.1 hk
  have:=(h.Tj q hq).1
  rw[bf]at this;cases this
 have hq:Hq id=some (.obj τ x):=h.fz.alY bf
 have Vh:id∉keys (uo++uf):=λhk=>by
  have h1:=h.ext id vd
  obtain⟨_,e,l,h0⟩:=h.ksn id hk
  have key: ∀(ups:iV) (H:Nat→Option bl),(∀u∈ups,u.2=some .gone∨ ∃e l,u.2=some (.oI e l))→id∈keys ups→c4 H ups id=some .gone∨ ∃e l,c4 H ups id=some (.oI e l):=by
   intro ups
   induction ups with
   |nil=>intro H _ hk;simp[keys]at hk
   |cons u ups ih=>
    intro H hv hk
    by_cases Zb:id∈keys ups
    ·exact ih _ (λv VG=>hv v (aZ _ VG)) Zb
    ·show c4 (bY H u.1 u.2) ups id=_∨ ∃e l,c4 (bY H u.1 u.2) ups id=_
     rw[lx Zb]
     have hui:id=u.1:=by
      simp only[keys,bV,aW]at hk Zb
      exact hk.resolve_right Zb
     rw[hui,ay]
     exact hv u bk
  have:=key (uo++uf) H0 (λu hu=>by
   rcases bb.1 hu with hu|hu
   ·exact .inl (h.uov u hu)
   ·obtain⟨e,l,h',_⟩:=h.ufv u hu;exact .inr ⟨e,l,h'⟩) hk
  rw[h1,bf]at this
  rcases this with h'|⟨_,_,h'⟩<;>cases h'
 have h0:H0 id=some (.obj τ x):=by rw[←h.same id Vh vd];exact bf
 have ln: ∀i,i∈keys (io++[(id,.io τ)])↔i∈keys io∨i=id:=by
  intro i
  simp only[keys,cY,bV,iZ,bb,aW,List.not_mem_nil,or_false]
 have zS: ∀b,fK (ν id)=some b→b∉hs:=λb hb eY=>h.none b eY id _ hq trivial hb
 refine⟨(Tr.gone h.mem id).mem,(Tr.gone h.My id).mem,h.ca,λi hi=> ?_,λi hi=> ?_,λq nN=> ?_,?_,λi hi e' l'=> ?_,λi hi=> ?_,λi=> ?_,h.uov,h.ufv,?_,λb hb=> ?_,λb hb=> ?_,λb hb i e' hi hm=> ?_,λb hb Y9=> ?_,λi hi m7=> ?_⟩
 ·rw[az _ _ (λe=>hi ((ln i).2 (.inr e)))];exact h.ext i (λh'=>hi ((ln i).2 (.inl h')))
 ·rw[az _ _ (λe=>hi ((ln i).2 (.inr e)))];exact h.VQ i (λh'=>hi ((ln i).2 (.inl h')))
 ·rcases bb.1 nN with nN|nN
  ·obtain⟨h1,h2,h3⟩:=h.Tj q nN
   have jB:q.1≠id:=λe=>vd (e▸eM nN)
   exact⟨by rw[az _ _ jB];exact h1,by rw[az _ _ jB];exact h2,h3⟩
  ·rw[bW]at nN;subst nN
   exact⟨ay _ _ _,ay _ _ _,.inl ⟨τ,x,rfl,h0⟩⟩
 ·simp only[keys,cY,bV,iZ]
  refine pV.2 ⟨h.ion,by simp,λx hx y hy=> ?_⟩
  rw[bW]at hy;subst hy
  intro e;exact vd (e▸hx)
 ·by_cases bX:i=id
  ·subst bX;rw[ay];intro h';cases h'
  ·rw[az _ _ bX];exact h.ks i hi e' l'
 ·obtain⟨h1,h2⟩:=h.ksn i hi
  exact⟨λh'=>((ln i).1 h').elim h1 (λe=>Vh (e▸hi)),h2⟩
 ·by_cases bX:i=id
  ·subst bX;left;rw[ay,ay]
  ·rw[az _ _ bX,az _ _ bX];exact h.fz i
 ·refine pV.2 ⟨h.nd,?_,λx hx y hy=> ?_⟩
  ·cases fK (ν id)<;>simp
  ·rw[fg]at hy
   intro Za;subst Za
   exact zS x hy hx
 ·rcases bb.1 hb with hb|hb
  ·exact h.hM b hb
  ·rw[fg]at hb
   exact(h.mem.kZ id _ bf).xU trivial hb
 ·rcases bb.1 hb with hb|hb
  ·exact h.Mz b hb
  ·rw[fg]at hb
   exact h.mem.new id _ b bf trivial hb
 ·by_cases bX:i=id
  ·subst bX;rw[ay]at hi;cases hi;simp[bl.mut]at hm
  ·rw[az _ _ bX]at hi
   rcases bb.1 hb with hb|hb
   ·exact h.none b hb i e' hi hm
   ·rw[fg]at hb
    intro eY
    exact h.My.zL i id e' _ b bX hi hm hq trivial eY hb
 ·rcases bb.1 hb with hb|hb
  ·obtain⟨q,hq1,Y5⟩:=h.iob b hb Y9
   exact⟨q,cT _ hq1,Y5⟩
  ·rw[fg]at hb
   exact⟨(id,.io τ),by simp,hb⟩
 ·have jB:i≠id:=λe=>m7 ((ln i).2 (.inr e))
  rw[az _ _ jB]
  exact h.same i hi (λh'=>m7 ((ln i).2 (.inl h')))
theorem jJ.af1{H0 H1 Hq:Nat→Option bl}{M1:Nat→Prop}{uo uf:iV}{io:List (Nat×AM)}{hs:List Nat}(h:jJ c w M ν H0 H1 Hq M1 uo uf io hs){id:Nat}{e:Ty}{l:List e.den}(bf:H1 id=some (.own e l)):
  jJ c w M ν H0 (bY H1 id (some .gone)) (bY Hq id (some .gone)) M1 uo uf (io++[(id,.lo e)]) (hs++(fK (ν id)).toList):=by
 have vd:id∉keys io:=λhk=>by
  obtain⟨q,hq,rfl⟩:=cD.1 hk
  have:=(h.Tj q hq).1
  rw[bf]at this;cases this
 have hq:Hq id=some (.own e l):=h.fz.ZE bf
 have Vh:id∉keys (uo++uf):=λhk=>h.ks id hk e l bf
 have h0:H0 id=some (.own e l):=by rw[←h.same id Vh vd];exact bf
 have ln: ∀i,i∈keys (io++[(id,.lo e)])↔i∈keys io∨i=id:=by
  intro i
  simp only[keys,cY,bV,iZ,bb,aW,List.not_mem_nil,or_false]
 have zS: ∀b,fK (ν id)=some b→b∉hs:=λb hb eY=>h.none b eY id _ hq trivial hb
 refine⟨(Tr.gone h.mem id).mem,(Tr.gone h.My id).mem,h.ca,λi hi=> ?_,λi hi=> ?_,λq nN=> ?_,?_,λi hi e' l'=> ?_,λi hi=> ?_,λi=> ?_,h.uov,h.ufv,?_,λb hb=> ?_,λb hb=> ?_,λb hb i e' hi hm=> ?_,λb hb Y9=> ?_,λi hi m7=> ?_⟩
 ·rw[az _ _ (λe=>hi ((ln i).2 (.inr e)))];exact h.ext i (λh'=>hi ((ln i).2 (.inl h')))
 ·rw[az _ _ (λe=>hi ((ln i).2 (.inr e)))];exact h.VQ i (λh'=>hi ((ln i).2 (.inl h')))
 ·rcases bb.1 nN with nN|nN
  ·obtain⟨h1,h2,h3⟩:=h.Tj q nN
   have jB:q.1≠id:=λe=>vd (e▸eM nN)
   exact⟨by rw[az _ _ jB];exact h1,by rw[az _ _ jB];exact h2,h3⟩
  ·rw[bW]at nN;subst nN
   exact⟨ay _ _ _,ay _ _ _,.inr ⟨e,l,rfl,h0⟩⟩
 ·simp only[keys,cY,bV,iZ]
  refine pV.2 ⟨h.ion,by simp,λx hx y hy=> ?_⟩
  rw[bW]at hy;subst hy
  intro e;exact vd (e▸hx)
 ·by_cases bX:i=id
  ·subst bX;rw[ay];intro h';cases h'
  ·rw[az _ _ bX];exact h.ks i hi e' l'
 ·obtain⟨h1,h2⟩:=h.ksn i hi
  exact⟨λh'=>((ln i).1 h').elim h1 (λe=>Vh (e▸hi)),h2⟩
 ·by_cases bX:i=id
  ·subst bX;left;rw[ay,ay]
  ·rw[az _ _ bX,az _ _ bX];exact h.fz i
 ·refine pV.2 ⟨h.nd,?_,λx hx y hy=> ?_⟩
  ·cases fK (ν id)<;>simp
  ·rw[fg]at hy
   intro Za;subst Za
   exact zS x hy hx
 ·rcases bb.1 hb with hb|hb
  ·exact h.hM b hb
  ·rw[fg]at hb
   exact(h.mem.kZ id _ bf).xU trivial hb
 ·rcases bb.1 hb with hb|hb
  ·exact h.Mz b hb
  ·rw[fg]at hb
   exact h.mem.new id _ b bf trivial hb
 ·by_cases bX:i=id
  ·subst bX;rw[ay]at hi;cases hi;simp[bl.mut]at hm
  ·rw[az _ _ bX]at hi
   rcases bb.1 hb with hb|hb
   ·exact h.none b hb i e' hi hm
   ·rw[fg]at hb
    intro eY
    exact h.My.zL i id e' _ b bX hi hm hq trivial eY hb
 ·rcases bb.1 hb with hb|hb
  ·obtain⟨q,hq1,Y5⟩:=h.iob b hb Y9
   exact⟨q,cT _ hq1,Y5⟩
  ·rw[fg]at hb
   exact⟨(id,.lo e),by simp,hb⟩
 ·have jB:i≠id:=λe=>m7 ((ln i).2 (.inr e))
  rw[az _ _ jB]
  exact h.same i hi (λh'=>m7 ((ln i).2 (.inl h')))
end VM
end
section
namespace VM
open Go
variable{P:Program}{E:Env}{o:Oper}{a:Act}{w:World}{M:Nat→Prop}{ν:Nat→Value}{σ:St}{c:Ctx}{α:Type}{r:α}{next:Act→World→Prop}{Q:Exit→Act→World→Prop}
theorem sR.ZF{H:Nat→Option bl}{id:Nat}{e e':bl}(bf:H id=some e)(hl:e.lj e'):sR H ν (bY H id (some e')) ν:=
 ⟨λi e1 hi=>by
  by_cases bX:i=id
  ·subst bX;rw[bf]at hi;cases hi;exact⟨e',ay _ _ _,hl⟩
  ·exact⟨e1,by rw[az _ _ bX];exact hi,.refl e1⟩,λ_ _=>rfl⟩
theorem bl.kL(e:bl):e.lj .gone:=by cases e<;>simp[bl.lj]
theorem VR.al0{H H':Nat→Option bl}{ν':Nat→Value}{a:Ty}{x:a.den}{v:Value}(h:VR w M H ν (B9 a x) v):VR w M H' ν' (B9 a x) v:=by
 unfold B9 at h ⊢
 split at h
 ·simp only[VR]at h ⊢;exact h
 ·simp only[VR]at h ⊢;exact h
theorem jr.free{H H':Nat→Option bl}{ν':Nat→Value}: ∀{τ:Ty} {x:τ.den} {vs:List Value},jr w M H ν (pO τ x) vs→jr w M H' ν' (pO τ x) vs
 | .pair a b,x,v::vs,h=>by
  simp only[pO,jr]at h ⊢
  exact⟨VR.al0 h.1,jr.free h.2⟩
 | .pair a b,x,[],h=>by simp[pO,jr]at h
 | .int _,_,[],_| .bool,_,[],_| .str,_,[],_| .slice _,_,[],_| .unit,_,[],_| .arr _ _,_,[],_=>by simp[pO,jr]
 | .int _,_,_::_,h| .bool,_,_::_,h| .str,_,_::_,h| .slice _,_,_::_,h| .unit,_,_::_,h| .arr _ _,_,_::_,h=>by simp[pO,jr]at h
theorem Cl{H0 H1 Hq:Nat→Option bl}{M1:Nat→Prop}{uo uf:iV}{io:List (Nat×AM)}{hs:List Nat}(h:jJ c w M ν H0 H1 Hq M1 uo uf io hs){m:AM}{x:bC}{v:Value}(hv:VR w M1 H1 ν x v)
  {k:m.den→(Nat→Option bl)→List Nat→iV→iV→List (Nat×AM)→Option α} (hk:nW m x H1 k=some r):
  ∃y H2 rd Lm Ln GV Vi M2,k y H2 rd Lm Ln GV=some r∧jJ c w M ν H0 H2 Vi M2 (Lm++uo) (Ln++uf) (io++GV) (hs++da m v)∧e8 w M1 w M2∧sR H1 ν H2 ν∧A1 w M2 m y v∧
   GV.map (λq=>ν q.1)=(if m.iC then [v]else [])∧GV.map (·.2)=nf [m]:=by
 unfold nW at hk
 split at hk
 ·
  rename_i τ k
  obtain⟨y,rd,ups,hk,hy⟩:=DS h.mem hv hk
  rcases hy with⟨rfl,hV⟩|⟨id,e,l,rfl,bf,hV⟩
  ·exact⟨y,H1,rd,[],[],[],Hq,M1,hk,by simpa [da]using h,.refl w M1,.refl H1 ν,hV,rfl,rfl⟩
  ·obtain⟨M2,hA,hK,JT⟩:=h.freeze bf
   exact⟨y,_,rd,[],_,[],Hq,M2,hk,by simpa [da]using hA,hK,.ZF bf ⟨rfl,rfl⟩,hV M2 JT,rfl,rfl⟩
 ·
  rename_i e k
  split at hk
  ·obtain⟨ad,hv⟩:=VR.emp.1 hv
   subst hv
   have hb:fK (.slice ad 0 0)=none:=by cases ad<;>simp[fK]
   exact⟨[],H1,[],[],[],[],Hq,M1,hk,by simpa [da,hb]using h,.refl w M1,.refl H1 ν,by simp only[A1,ER];exact .inl ⟨trivial,ad,rfl⟩,rfl,rfl⟩
  ·rename_i id
   split at hk
   ·rename_i e' l bf
    obtain⟨e1,hk⟩:=bB hk
    cases e1
    simp only[VR]at hv
    obtain⟨_,rfl⟩:=hv
    refine⟨_,_,_,_,_,_,_,M1,hk,by simpa [da]using h.hand bf,.refl w M1,.ZF bf (bl.kL _),?_,rfl,rfl⟩
    have:=h.mem.kZ id _ bf
    exact this
   ·cases hk
  ·cases hk
 ·
  rename_i τ k
  split at hk
  ·rename_i id
   split at hk
   ·rename_i υ z bf
    obtain⟨e1,hk⟩:=bB hk
    subst e1
    simp only[VR]at hv
    obtain⟨e,he,nM⟩:=hv
    rw[bf]at he;cases he
    simp only[AR]at nM
    obtain⟨_,b,hb,hv⟩:=nM
    have VS:v=ν id:=by rw[hv,hb];rfl
    subst VS
    refine⟨_,_,_,_,_,_,_,M1,hk,by simpa [da]using h.ahr bf,.refl w M1,.ZF bf (bl.kL _),?_,rfl,rfl⟩
    have:=h.mem.kZ id _ bf
    exact this
   ·cases hk
  ·cases hk
 ·
  rename_i f τ k
  split at hk
  ·rename_i f' cs
   obtain⟨hf,hk1⟩:=cB hk
   clear hk
   have hf:=fV hf
   subst hf
   have hk:=hk1
   clear hk1
   simp only[VR]at hv
   obtain⟨us,rfl,Zv⟩:=hv
   obtain⟨y,rd,ups,hk,hy⟩:=EX h.mem Zv hk
   split at hk
   ·exact⟨y,H1,rd,[],[],[],Hq,M1,hk,by simpa [da]using h,.refl w M1,.refl H1 ν,by simp only[A1,VR];exact⟨us,rfl,hy rfl⟩,rfl,rfl⟩
   ·cases hk
  ·cases hk
 ·cases hk
 ·
  rename_i τ k
  split at hk
  ·rename_i υ z
   obtain⟨e1,hk⟩:=bB hk
   subst e1
   exact⟨_,H1,_,[],[],[],Hq,M1,hk,by simpa [da]using h,.refl w M1,.refl H1 ν,by simp only[A1,VR]at hv ⊢;exact hv,rfl,rfl⟩
  ·cases hk
 ·
  rename_i e k
  split at hk
  ·rename_i id
   split at hk
   ·rename_i e' l bf
    obtain⟨e1,hk⟩:=bB hk
    cases e1
    simp only[VR]at hv
    obtain⟨_,rfl⟩:=hv
    refine⟨_,_,_,_,_,_,_,M1,hk,by simpa [da]using h.af1 bf,.refl w M1,.ZF bf (bl.kL _),?_,rfl,rfl⟩
    have:=h.mem.kZ id _ bf
    exact this
   ·cases hk
  ·cases hk
theorem Cm{H0:Nat→Option bl}: ∀{ms:List AM} {pX:List bC} {vs:List Value} {H1 Hq:Nat→Option bl} {M1:Nat→Prop} {rd:List Nat} {uo uf:iV} {io:List (Nat×AM)} {hs:List Nat} {K:HP ms→List Nat→iV→iV→List (Nat×AM)→Option α},
  jJ c w M ν H0 H1 Hq M1 uo uf io hs→jr w M1 H1 ν pX vs→tg ms pX H1 rd uo uf io K=some r→
  ∃x Ba Lm Ln GV H2 Vi M2,K x Ba Lm Ln GV=some r∧jJ c w M ν H0 H2 Vi M2 Lm Ln GV (hs++dR ms vs)∧e8 w M1 w M2∧jI w M2 ms x vs∧
   GV.map (λq=>ν q.1)=io.map (λq=>ν q.1)++fj ms vs∧GV.map (·.2)=io.map (·.2)++nf ms
 |[],[],[],H1,Hq,M1,rd,uo,uf,io,hs,K,h,_,hk=>
  ⟨(),rd,uo,uf,io,H1,Hq,M1,hk,by simpa [dR]using h,.refl w M1,rfl,by simp[fj],by simp[nf]⟩
 |[m],[x],[v],H1,Hq,M1,rd,uo,uf,io,hs,K,h,hv,hk=>by
  simp only[jr,eS]at hv
  obtain⟨y,H2,rd1,uo1,uf1,io1,Vi,M2,hk,hA,hK,hG,hy,ZG,Vj⟩:=Cl h hv (hk:nW m x H1 _=some r)
  refine⟨y,_,_,_,_,H2,Vi,M2,hk,by simpa [dR]using hA,hK,⟨v,[],rfl,hy,rfl⟩,?_,?_⟩
  ·rw[cY,ZG];cases vd:m.iC<;>simp[fj,vd]
  ·rw[cY,Vj]
 |m::n::ms,x::xs,v::vs,H1,Hq,M1,rd,uo,uf,io,hs,K,h,hv,hk=>by
  simp only[jr]at hv
  obtain⟨y,H2,rd1,uo1,uf1,io1,Vi,M2,hk,hA,hK,hG,hy,ZG,Vj⟩:=Cl h hv.1 (hk:nW m x H1 _=some r)
  obtain⟨ys,Ba,Lm,Ln,GV,H3,Hq3,M3,hk,hA',hK',hys,hi3,hi4⟩:=Cm (ms:=n::ms) hA (jr.ca hK hG hv.2) hk
  refine⟨(y,ys),_,_,_,_,H3,Hq3,M3,hk,by simpa [dR,br]using hA',hK.trans hK',⟨v,vs,rfl,?_,hys⟩,?_,?_⟩
  ·refine A1.wm hK' (λb hb=>⟨rfl,hA'.hM b ?_⟩) hy
   exact cT _ (dA _ hb)
  ·rw[hi3,cY,ZG,br]
   congr 1
   cases vd:m.iC<;>simp[fj,vd]
  ·rw[hi4,cY,Vj,br]
   congr 1
   cases m<;>simp[nf]
 |[],_::_,_,_,_,_,_,_,_,_,_,_,_,_,hk=>by simp[tg]at hk
 |[_],[],_,_,_,_,_,_,_,_,_,_,_,_,hk=>by simp[tg]at hk
 |[_],_::_::_,_,_,_,_,_,_,_,_,_,_,_,_,hk=>by simp[tg]at hk
 |_::_::_,[],_,_,_,_,_,_,_,_,_,_,_,_,hk=>by simp[tg]at hk
 |_,_::_,[],_,_,_,_,_,_,_,_,_,_,hv,_=>by simp[jr]at hv
 |[],[],_::_,_,_,_,_,_,_,_,_,_,_,hv,_=>by simp[jr]at hv
 |[_],[_],_::_::_,_,_,_,_,_,_,_,_,_,_,hv,_=>by simp[jr]at hv
end VM
end
