/- A part of the proof of WindEmpty of layer 21: a machine that reads a function of the program as an equation between values. -/
import Derived.Test.YtecmobijochjkaaGreatVm2
import Derived.Great.FillDense
set_option linter.all false
section
namespace VM
open Go
variable{P:Program}{E:Env}{o:Oper}{a:Act}{w:World}{M:Nat→Prop}{ν:Nat→Value}{σ:St}{c:Ctx}{α:Type}{r:α}{next:Act→World→Prop}{Q:Exit→Act→World→Prop}
theorem VG(off:Nat)(new:Array Value)(cs:Array Value)(h:off+new.size≤cs.size):
  (new.zipIdx.foldl (λcs (x:Value×Nat)=>cs.setIfInBounds (off+x.2) x.1) cs)=(fb cs.toList off new.toList).toArray:=by
 have h1:new.zipIdx.foldl (λcs (x:Value×Nat)=>cs.setIfInBounds (off+x.2) x.1) cs=(new.toList.zipIdx 0).foldl (λcs (x:Value×Nat)=>cs.setIfInBounds (off+x.2) x.1) cs:=by
  rw[←Array.foldl_toList,Array.toList_zipIdx]
 rw[h1]
 obtain⟨hs,hk⟩:=Great.foldl_set off new.toList 0 cs
 apply Array.ext_getElem?
 intro k
 rw[hk k,←gR (xs:=cs)]
 have hl:new.toList.length=new.size:=bH
 have hc:cs.toList.length=cs.size:=bH
 unfold fb
 rw[L9]
 by_cases h2:k<off
 ·rw[ah ω,bt,sf (by rw[cc];omega),List.getElem?_take_of_lt h2]
 ·by_cases h3:k<off+new.size
  ·rw[aj ω,sf (by rw[aS,cc];omega),oF (by rw[cc];omega),cc]
   congr 1
   omega
  ·rw[ah ω,oF (by rw[aS,cc];omega),aS,cc,lP]
   congr 1
   omega
theorem Ig{place:Nat→Option (Nat×Nat)}{cs:Array Value}{i:Nat}{v:Value}{rest:List (Nat×Value)}{off s:Nat}(hp:place i=some (off,s))(hs:v.cells.size=s)(h:off+s≤cs.size):
  Instr.fill place cs ((i,v)::rest)=Instr.fill place (fb cs.toList off v.cells.toList).toArray rest:=by
 have h1: ¬(decide (v.cells.size≠s)||decide (off+v.cells.size>cs.size))=true:=by simp[hs];omega
 conv=>lhs;unfold Instr.fill
 rw[hp]
 simp only
 rw[ah h1]
 congr 1
 exact VG off v.cells cs ω
theorem uh(a:Act)(ps:Array (Nat×Operand)):(ps.map λ(i,x)=>(i,a.eval x)).toList=ps.toList.map λp=>(p.1,a.eval p.2):=by
 rw[Array.toList_map]
def PR(w:World)(M:Nat→Prop)(H:Nat→Option bg)(ν:Nat→Value):List (Nat×bD)→List (Nat×Value)→Prop
 |[],[]=>True
 |p::ps,q::qs=>p.1=q.1∧VR w M H ν p.2 q.2∧PR w M H ν ps qs
 |_,_=>False
theorem PR.ca{w':World}{M':Nat→Prop}{H H':Nat→Option bg}{ν':Nat→Value}(k:e8 w M w' M')(g:sR H ν H' ν'): ∀{ps:List (Nat×bD)} {qs:List (Nat×Value)},PR w M H ν ps qs→PR w' M' H' ν' ps qs
 |[],[],_=>trivial
 |_::_,_::_,h=>⟨h.1,h.2.1.ca k g,PR.ca k g h.2.2⟩
 |[],_::_,h=>h.elim
 |_::_,[],h=>h.elim
theorem Core.pr(hc:Core c σ a.tmps w M ν): ∀ps:List (Nat×Operand),PR w M σ.H ν (ps.map λp=>(p.1,σ.ρ p.2)) (ps.map λp=>(p.1,a.eval p.2))
 |[]=>trivial
 |p::ps=>⟨rfl,hc.ev p.2,hc.pr ps⟩
theorem Cp{e:Ty}{n:Nat}{H:Nat→Option bg}: ∀(ps:List (Nat×bD)) (qs:List (Nat×Value)) (H1:Nat→Option bg) (M:Nat→Prop) (l:List e.den) (cs:Array Value) (rd:List Nat) (ups:iX) (K:List e.den→List Nat→iX→Option α),
  Fz H H1→Mem c H1 w M ν→PR w M H1 ν ps qs→l.length=n→cs.size=n*e.size→qS w M e cs.toList l→H1=c4 H ups→vX e H n ps l rd ups K=some r→
  ∃l' Bj nZ M' cs',K l' Bj nZ=some r∧Tr c H1 w M ν (c4 H nZ) w M' ν∧Fz H (c4 H nZ)∧l'.length=n∧cs'.size=n*e.size∧qS w M' e cs'.toList l'∧
   Instr.fill (λi=>some (i*e.size,e.size)) cs qs=some cs':=by
 intro ps
 induction ps with
 |nil=>
  intro qs H1 M l cs rd ups K hz hm hp hl hs hr hH h
  cases qs with
  |cons _ _=>exact hp.elim
  |nil=>exact⟨l,rd,ups,M,cs,h,hH▸Tr.refl hm,hH▸hz,hl,hs,hr,rfl⟩
 |cons p ps ih=>
  intro qs H1 M l cs rd ups K hz hm hp hl hs hr hH h
  cases qs with
  |nil=>exact hp.elim
  |cons q qs=>
   obtain⟨h1,h2,h3⟩:=hp
   unfold vX at h
   obtain⟨hb,h⟩:=cy h
   have e9:p.1<n:=by simpa [zI]using hb
   obtain⟨y,rd1,P6,M1,h,il,hV,Cr,_⟩:=n6 hz hm h2 h
   have hlen:(q.2.cells).size=e.size:=by rw[←bH];exact hV.cells.length
   have hmul:=ew (s:=e.size) e9
   have xX:=qS.set (hr.ca il.ca) (by rw[hl,bH,hs];exact aG _) (i:=p.1) ω hV.cells
   obtain⟨l',Bj,nZ,M',cs',hK,ag4,Bc,JQ,Rz,eM,hf⟩:=ih qs (c4 H1 P6) M1 (l.set p.1 y) (fb cs.toList (p.1*e.size) q.2.cells.toList).toArray (rd1++rd) (ups++P6) K Cr il.mem (h3.ca il.ca il.goes)
    (by rw[bN];exact hl) (by rw[iZ,gD (by rw[bH,bH];omega),bH,hs]) xX (by rw[gr,hH]) h
   refine⟨l',Bj,nZ,M',cs',hK,il.trans ag4,Bc,JQ,Rz,eM,?_⟩
   rw[Ig (off:=p.1*e.size) (s:=e.size) (by rw[h1]) hlen ω]
   exact hf
theorem J1{τ:Ty}{H:Nat→Option bg}{place:Nat→Option (Nat×Nat)}(Ho: ∀(x:τ.den) n υ y o,Df τ x n υ y o→place n=some (o,υ.size)):
  ∀(ps:List (Nat×bD)) (qs:List (Nat×Value)) (H1:Nat→Option bg) (M:Nat→Prop) (x:τ.den) (cs:Array Value) (rd:List Nat) (ups:iX) (K:τ.den→List Nat→iX→Option α),
  Fz H H1→Mem c H1 w M ν→PR w M H1 ν ps qs→Rd w M τ cs.toList x→H1=c4 H ups→uc τ H ps x rd ups K=some r→
  ∃x' Bj nZ M' cs',K x' Bj nZ=some r∧Tr c H1 w M ν (c4 H nZ) w M' ν∧Fz H (c4 H nZ)∧Rd w M' τ cs'.toList x'∧Instr.fill place cs qs=some cs'∧
   ∀m υ,JK τ m=some υ→(ps.all λp=> !(Nat.beq p.1 m))=true→(cs'.toList.drop (rP τ m)).take υ.size=(cs.toList.drop (rP τ m)).take υ.size:=by
 intro ps
 induction ps with
 |nil=>
  intro qs H1 M x cs rd ups K hz hm hp hr hH h
  cases qs with
  |cons _ _=>exact hp.elim
  |nil=>exact⟨x,rd,ups,M,cs,h,hH▸Tr.refl hm,hH▸hz,hr,rfl,λ_ _ _ _=>rfl⟩
 |cons p ps ih=>
  intro qs H1 M x cs rd ups K hz hm hp hr hH h
  cases qs with
  |nil=>exact hp.elim
  |cons q qs=>
   obtain⟨h1,h2,h3⟩:=hp
   unfold uc at h
   obtain⟨υ,y0,of,hf,h⟩:=tj h
   obtain⟨y,rd1,P6,M1,h,il,hV,Cr,_⟩:=n6 hz hm h2 h
   obtain⟨υ',y',o',k',zN,jQ,DS⟩:=sq h
   obtain⟨rfl,rfl⟩:=zN.eq
   obtain⟨rfl,rfl⟩:=hf.eq
   obtain⟨e1,Ly⟩:=bC jQ
   obtain⟨x',oX,_,kV⟩:=DS _ _ Ly
   have hlen:(q.2.cells).size=(vt τ p.1).size:=by rw[←bH];exact hV.cells.length
   have hb:=hf.bound
   have Mt:=hr.length
   rw[bH]at Mt
   obtain⟨x2,Bj,nZ,M',cs',hK,ag4,Bc,eM,S8,P7⟩:=ih qs (c4 H1 P6) M1 x' (fb cs.toList (rP τ p.1) q.2.cells.toList).toArray (rd1++rd) (ups++P6) K Cr il.mem (h3.ca il.ca il.goes)
    (kV w M1 _ _ (hr.ca il.ca) hV.cells) (by rw[gr,hH]) oX
   refine⟨x2,Bj,nZ,M',cs',hK,il.trans ag4,Bc,eM,?_,λm υ jQ lx=> ?_⟩
   ·rw[Ig (off:=rP τ p.1) (s:=(vt τ p.1).size) (by rw[←h1];exact Ho _ _ _ _ _ hf) hlen ω]
    exact S8
   ·rw[Ey,bQ]at lx
    rw[P7 m υ jQ lx.2]
    obtain⟨y2,o2,hf2⟩:=tk jQ x
    obtain⟨e3,e4⟩:=hf2.eq
    subst e3 e4
    have jy:p.1≠m:=λe=>by have:=lx.1;rw[e,tf]at this;cases this
    have hap:=hf.apart hf2 jy
    have tU:=hf2.bound
    show((fb cs.toList (rP τ p.1) q.2.cells.toList).drop _).take _=_
    rw[JS (by rw[bH];omega) (by rw[bH,bH];omega)]
theorem fT.places: ∀(τ:Ty) (fs:Array Field) (n off:Nat),fT P τ (.inr (fs,n,off))→
  ∃ps,(fs.toList.drop n).mapM (λf=>(P.info? f.type).map λi=>(f.offset,i.size))=some ps∧ ∀(x:τ.den) m υ y o,Df τ x m υ y o→ps[m]? =some (off+o,υ.size)
 | .unit,fs,n,off,h=>by
  simp only[fT]at h
  refine⟨[],?_,λx m υ y o hf=>by cases hf⟩
  rw[kE (by rw[bH];omega)];rfl
 | .pair t b,fs,n,off,h=>by
  simp only[fT]at h
  obtain⟨f,hf,ho,ha,hb⟩:=h
  obtain⟨ps,J2,S8⟩:=fT.places b fs (n+1) (off+t.size) hb
  obtain⟨i,hi,hs,_⟩:=(show kH P t f.type from ha).base
  have e9:n<fs.toList.length:=by rw[bH];exact(kD.1 hf).1
  have hfe:fs.toList[n]=f:=by rw[zs];exact(kD.1 hf).2
  refine⟨(off,t.size)::ps,?_,λx m υ y o zN=> ?_⟩
  ·rw[pS e9,zA,J2,hfe,hi]
   simp[ho,hs]
  ·cases zN with
   |here=>simp
   |there _ h'=>simp[S8 _ _ _ _ _ h',oT]
 | .int _,_,_,_,h| .bool,_,_,_,h| .str,_,_,_,h| .slice _,_,_,_,h| .arr _ _,_,_,_,h=>by simp[fT]at h
theorem kH.places{τ:Ty}{t:TypeId}(h:kH P τ t)(ha:τ.isAgg=true)(hn: ∀n e,τ≠ .arr n e):
  ∃fs ps,P.underlying t=some (.struct fs)∧fs.toList.mapM (λf=>(P.info? f.type).map λi=>(f.offset,i.size))=some ps∧ ∀(x:τ.den) m υ y o,Df τ x m υ y o→ps[m]? =some (o,υ.size):=by
 cases τ with
 |unit=>
  simp only[kH,fT]at h
  obtain⟨_,fs,hu,hs⟩:=h
  refine⟨fs,[],hu,?_,λx m υ y o hf=>by cases hf⟩
  have:fs.toList=[]:=tV (by rw[bH];exact hs)
  rw[this];rfl
 |pair t' b=>
  simp only[kH,fT]at h
  obtain⟨_,fs,f,hu,hf,ho,ha',hb⟩:=h
  have hg:fT P (.pair t' b) (.inr (fs,0,0)):=by
   simp only[fT]
   exact⟨f,hf,ho,ha',by simpa using hb⟩
  obtain⟨ps,J2,S8⟩:=fT.places _ fs 0 0 hg
  exact⟨fs,ps,hu,J2,λx m υ y o zN=>by simpa using S8 x m υ y o zN⟩
 |arr n e=>exact absurd rfl (hn n e)
 |int _=>simp[Ty.isAgg]at ha
 |bool=>simp[Ty.isAgg]at ha
 |str=>simp[Ty.isAgg]at ha
 |slice _=>simp[Ty.isAgg]at ha
theorem z6{ρ:Operand→Value}{t:TypeId}{ps:Array (Nat×Operand)}(ho:o.op= .build t ps){v:Value}(h:(Instr.build t (ps.map λ(i,x)=>(i,ρ x))).run P w= .ok v w):(execOp ρ o).run P w= .ok (.value v) w:=by
 simp[execOp,ho,h]
theorem z7{ρ:Operand→Value}{t:TypeId}{n:Nat}{ps:Array (Nat×Operand)}(ho:o.op= .buildSlice t n ps){v:Value}{w':World}(h:(Instr.buildSlice t n (ps.map λ(i,x)=>(i,ρ x))).run P w= .ok v w'):(execOp ρ o).run P w= .ok (.value v) w':=by
 simp[execOp,ho,h]
theorem VR.RA{H:Nat→Option bg}{τ:Ty}(ha:τ.isAgg=true){cs:Array Value}{x:τ.den}(h:Rd w M τ cs.toList x):VR w M H ν (.val τ x) (.agg cs):=by
 simp only[VR,V];rw[aj ha];exact⟨cs,rfl,h⟩
theorem J3(hE:EnvTy P E)(hc:Core c σ a.tmps w M ν){t:TypeId}{ps:Array (Nat×Operand)}(ho:o.op= .build t ps){K:jb α}{n:Nat}{e:Ty}(ht:E.ty t=some (.arr n e))
  (h:vX e σ.H n (partsOf σ.ρ ps) (List.replicate n e.zero) [] [] (λl rd ups=>K (.val (.arr n e) l) rd ups)=some r) (hn:gd c σ a o w M ν K r next):o.wp P a w next Q:=by
 have hl:=hE.ty t _ ht
 obtain⟨e',hu,hle⟩:=hl.arr
 obtain⟨i,hi,hs,hz,_⟩:=hl.base
 obtain⟨ie,hie,hes,_⟩:=hle.base
 have YV:=Rd.arr.1 (Rd.zero w M (.arr n e))
 obtain⟨l',Bj,nZ,M',cs',hK,il,Bc,JQ,Rz,eM,hf⟩:=Cp (partsOf σ.ρ ps) (ps.toList.map λ(p:Nat×Operand)=>(p.1,a.eval p.2)) σ.H M (List.replicate n e.zero) (Ty.di (.arr n e)).toArray [] [] _ (.refl _) hc.mem (hc.pr ps.toList)
  (by rw[cR]) (by rw[iZ];exact YV.2.1) YV.2.2 rfl h
 refine a7 (z6 ho (run_build w t _ cs' ?_)) (hn _ _ _ _ _ _ _ hK il (VR.RA rfl (Rd.arr.2 ⟨JQ,by rw[bH];exact Rz,eM⟩)))
 unfold Program.built
 rw[hi,hu]
 simp only[hz,hie,hes,uh]
 exact hf
theorem Dn(hE:EnvTy P E)(hc:Core c σ a.tmps w M ν){t:TypeId}{ps:Array (Nat×Operand)}(ho:o.op= .build t ps){K:jb α}{τ:Ty}(ht:E.ty t=some τ)(hna: ∀n e,τ≠ .arr n e)
  (h:cond τ.isAgg (uc τ σ.H (partsOf σ.ρ ps) τ.zero [] [] (λl rd ups=>K (Zf E (partsOf σ.ρ ps) τ l) rd ups)) none=some r) (hn:gd c σ a o w M ν K r next):o.wp P a w next Q:=by
 obtain⟨Mp,h⟩:=cy h
 have hl:=hE.ty t _ ht
 obtain⟨fs,pl,hu,J2,Ho⟩:=hl.places Mp hna
 obtain⟨i,hi,hs,hz,_⟩:=hl.base
 obtain⟨l',Bj,nZ,M',cs',hK,il,Bc,eM,hf,P7⟩:=J1 (place:=(pl.toArray[·]?)) (λx n υ y o hf=>by simpa using Ho x n υ y o hf) (partsOf σ.ρ ps) (ps.toList.map λ(p:Nat×Operand)=>(p.1,a.eval p.2)) σ.H M τ.zero τ.di.toArray [] [] _ (.refl _) hc.mem (hc.pr ps.toList)
  (Rd.zero w M τ) rfl h
 have hvr:VR w M' (c4 σ.H nZ) ν (Zf E (partsOf σ.ρ ps) τ l') (.agg cs'):=by
  unfold Zf
  split
  ·rename_i n e sS
   cases lx:(partsOf σ.ρ ps).all λp=> !(Nat.beq p.1 n)
   ·exact VR.RA Mp eM
   ·have hq:=Rv sS
    show VR w M' (c4 σ.H nZ) ν (.JL τ l' n) (.agg cs')
    have hv:=VR.RA (H:=c4 σ.H nZ) (ν:=ν) Mp eM
    simp only[VR]at hv ⊢
    refine⟨hv,cs',none,rfl,?_⟩
    have hfq:JK τ n=some (.slice e):=by
     unfold gM at hq
     split at hq
     ·rename_i a ha
      rw[ha]
      have:=bz hq
      rw[this]
     ·cases hq
    have h2:=P7 n _ hfq lx
    have h3:=Ia hq
    simp only[cE,m0]at h3
    have h4:=fj (λl=>l[0]?) h2
    simp only[lO,lP,m0]at h4
    rw[aj (show 0<(Ty.slice e).size from Nat.one_pos),aj (show 0<(Ty.slice e).size from Nat.one_pos)]at h4
    rw[h4];exact h3
  ·exact VR.RA Mp eM
 refine a7 (z6 ho (run_build w t _ cs' ?_)) (hn _ _ _ _ _ _ _ hK il hvr)
 unfold Program.built
 rw[hi,hu]
 have hzc:(cK τ τ.di).cells=τ.di.toArray:=by apply jo;rw[gT]
 simp only[hz,J2,uh,hzc]
 exact hf
theorem Hp(hE:EnvTy P E)(hc:Core c σ a.tmps w M ν){t:TypeId}{n:Nat}{ps:Array (Nat×Operand)}(ho:o.op= .buildSlice t n ps){K:jb α}{e:Ty}(ht:E.ty t=some (.slice e)){id:Nat}
  (h:cond (Nat.ble (n*(e.size+1)) 16777216) (qN σ.H id (.own e []) (vX e σ.H n (partsOf σ.ρ ps) (List.replicate n e.zero) [] [] λl rd ups=>K (.ref id) (id::rd) (ups++[(id,some (.own e l))]))) none=some r)
  (hn:gd c σ a o w M ν K r next):o.wp P a w next Q:=by
 obtain⟨hb,h⟩:=cy h
 obtain⟨bf,h⟩:=ln h
 have hb:=Ej hb
 rw[Nat.mul_add,Nat.mul_one]at hb
 obtain⟨e',hu,hle⟩:=(hE.ty t _ ht).slice
 obtain⟨ie,hie,hes,hz,_⟩:=hle.base
 obtain⟨l',Bj,nZ,M',cs',hK,il,Bc,JQ,Rz,eM,hf⟩:=Cp (partsOf σ.ρ ps) (ps.toList.map λ(p:Nat×Operand)=>(p.1,a.eval p.2)) σ.H M (List.replicate n e.zero) (madeCells (cK e e.di).cells (n*e.size)) [] [] _ (.refl _) hc.mem (hc.pr ps.toList)
  (by rw[cR]) (size_madeCells _ _) (qS.made w M e (aG _)) rfl h
 have agU:c4 σ.H nZ id=none:=Bc.none bf
 have wi:=il.trans (Tr.row il.mem agU e' (e:=e) (cs:=cs') (l:=l') (cap:=n) ω (by simp[maxLen];omega) Rz eM)
 have dE:(Instr.buildSlice t n (ps.map λ(i,x)=>(i,a.eval x))).run P w= .ok (.slice (some ⟨w.heap.size,0,none⟩) n n) (w.alloc (.cells cs' e')):=by
  by_cases h0:n*e.size=0
  ·rw[h0]at hf
   have hm0:madeCells (cK e e.di).cells 0=(Array.range 0).map λi:Nat=>(#[]:Array Value)[i%0]! :=by simp[madeCells]
   rw[hm0]at hf
   rw[←uh]at hf
   simp[Instr.buildSlice,run_underlying hu,Go.sizeOf,typeInfo,hie,hes,h0,newRow]at hf ⊢
   simp[hf]
  ·refine run_buildSlice w t e' n _ cs' ie _ hu hie hz (by rw[hes];omega) (by rw[hes];exact h0) ?_
   rw[hes,uh]
   exact hf
 refine a7 (z7 ho dE) (hn _ _ _ _ _ (λb=>M' b∨b=w.heap.size) (dg ν id (.slice (some ⟨w.heap.size,0,none⟩) l'.length n)) hK ?_ ?_)
 ·rw[gr];exact wi
 ·simp only[VR]
  exact⟨by rw[gr];show bZ _ id _ id≠none;rw[ax];simp,by simp[dg,JQ]⟩
end VM
end
section
namespace VM
open Go
variable{P:Program}{E:Env}{o:Oper}{a:Act}{w:World}{M:Nat→Prop}{ν:Nat→Value}{σ:St}{c:Ctx}{α:Type}{r:α}{next:Act→World→Prop}{Q:Exit→Act→World→Prop}
def YW(o:Option Value)(d l:Int):Prop:=(o=none∧l=d)∨ ∃k,o=some (.int k l)
theorem qU(hc:Core c σ a.tmps w M ν){x:Option Operand}{d:Int}{k:Int→Option α}(h:yC (x.map σ.ρ) d k=some r): ∃l,k l=some r∧YW (x.map a.eval) d l:=by
 cases x with
 |none=>exact⟨d,h,.inl ⟨rfl,rfl⟩⟩
 |some x=>
  obtain⟨i,n,hx,h⟩:=m6 (h:vV (σ.ρ x) (λ_ x=>k x)=some r)
  have hv:=hc.ev x
  rw[hx]at hv
  exact⟨n,h,.inr ⟨i,by rw[←hv.int];rfl⟩⟩
theorem ve{s:Bool}{len cap:Nat}{lo hi mx:Option Value}{l h m:Int}(xZ:YW lo 0 l)(LA:YW hi len h)(LB:YW mx cap m)(hm:mx.isNone=true∨hi.isSome=true)
  (h0:0≤l) (h1:l≤h) (h2:h≤m) (h3:m≤cap):(Instr.sliceBounds s len cap lo hi mx).run P w= .ok (l.toNat,h.toNat,m.toNat) w:=by
 have hb: ∀(k:IntKind) (i:Int) (y:Nat) cd,0≤i→i≤y→(Instr.sliceBound (.int k i) y cd).run P w= .ok i.toNat w:=by
  intro k i y cd h1 h2
  simp[Instr.sliceBound,asIntOf,h1,h2]
 have jQ:((m.toNat:Nat):Int)=m:=ω
 have hh':((h.toNat:Nat):Int)=h:=ω
 rcases LB with⟨rfl,rfl⟩|⟨km,rfl⟩
 ·rcases LA with⟨rfl,rfl⟩|⟨kh,rfl⟩
  ·rcases xZ with⟨rfl,rfl⟩|⟨kl,rfl⟩
   ·simp[Instr.sliceBounds]
   ·simp[Instr.sliceBounds,hb kl l len _ h0 h1]
  ·rcases xZ with⟨rfl,rfl⟩|⟨kl,rfl⟩
   ·simp[Instr.sliceBounds,hb kh h cap _ ω h2]
   ·simp[Instr.sliceBounds,hb kh h cap _ ω h2,hb kl l h.toNat _ h0 ω]
 ·rcases LA with⟨rfl,rfl⟩|⟨kh,rfl⟩
  ·simp at hm
  ·rcases xZ with⟨rfl,rfl⟩|⟨kl,rfl⟩
   ·simp[Instr.sliceBounds,hb km m cap _ ω h3,hb kh h m.toNat _ ω ω]
   ·simp[Instr.sliceBounds,hb km m cap _ ω h3,hb kh h m.toNat _ ω ω,hb kl l h.toNat _ h0 ω]
theorem Hr{ρ:Operand→Value}{t:TypeId}{x:Operand}{lo hi mx:Option Operand}(ho:o.op= .slice t x lo hi mx){s:ByteArray}{l h:Int}(hu:P.underlying t=some .string)(hx:ρ x= .string s)
  (xZ:YW (lo.map ρ) 0 l) (LA:YW (hi.map ρ) s.size h) (LB:mx.isNone=true) (h0:0≤l) (h1:l≤h) (h2:h≤s.size):(execOp ρ o).run P w= .ok (.value (.string (s.extract l.toNat h.toNat))) w:=by
 have hm:mx=none:=by simpa using LB
 subst hm
 have hb:=ve (P:=P) (w:=w) (s:=false) xZ LA (.inl ⟨rfl,rfl⟩) (.inl rfl) h0 h1 h2 (fI _)
 simp[execOp,ho,hx,Instr.sliceAt,Instr.slice,run_underlying hu,hb]
theorem ui{ρ:Operand→Value}{t e:TypeId}{x:Operand}{lo hi mx:Option Operand}(ho:o.op= .slice t x lo hi mx){τ:Ty}{ad:Option Addr}{len cap:Nat}{l h m:Int}(hu:P.underlying t=some (.slice e))(hle:kH P τ e)(hx:ρ x= .slice ad len cap)
  (xZ:YW (lo.map ρ) 0 l) (LA:YW (hi.map ρ) len h) (LB:YW (mx.map ρ) cap m) (hm:(mx.map ρ).isNone=true∨(hi.map ρ).isSome=true) (h0:0≤l) (h1:l≤h) (h2:h≤m) (h3:m≤cap):
  (execOp ρ o).run P w= .ok (.value (.slice (if m.toNat=l.toNat then ad else ad.map (·.add (l.toNat*τ.size))) (h.toNat-l.toNat) (m.toNat-l.toNat))) w:=by
 have hb:=ve (P:=P) (w:=w) (s:=true) xZ LA LB hm h0 h1 h2 h3
 simp[execOp,ho,hx,Instr.sliceAt,Instr.slice,run_underlying hu,hb,de hle]
theorem Cs{x:Option Operand}(h:lR x=true)(a:Act): ∃k,x.map a.eval=some (.int k 0):=by
 unfold lR at h
 split at h
 ·rename_i k n
  have:n=0:=by simpa using h
  subst this
  exact⟨k,rfl⟩
 ·cases h
theorem Rd.cut{e:Ty}{ad:Option Addr}{len cap:Nat}{x:List e.den}(h:Rd w M (.slice e) [.slice ad len cap] x){l hh m:Int}(h0:0≤l)(h1:l≤hh)(h2:hh≤m)(hl:hh≤x.length):
  Rd w M (.slice e) [.slice (if m.toNat=l.toNat then ad else ad.map (·.add (l.toNat*e.size))) (hh.toNat-l.toNat) (m.toNat-l.toNat)] (List.drop l.toNat (List.take hh.toNat x)):=by
 simp only[Rd,fh,eS]at h ⊢
 obtain⟨a',m7,hv,hc,hr⟩:=h
 cases hv
 have hlen:List.length (List.drop l.toNat (List.take hh.toNat x))=hh.toNat-l.toNat:=by rw[dR,cc];omega
 refine⟨_,_,by rw[hlen],by rw[hlen];omega,λi hi=> ?_⟩
 rw[hlen]at hi
 obtain⟨b,off,ha,hb,hm,cs,pY,kV⟩:=hr (l.toNat+i) ω
 rw[ah ω]
 refine⟨b,off+l.toNat*e.size,by rw[ha];simp[Addr.add_lit],hb,hm,cs,?_,?_⟩
 ·rw[show off+l.toNat*e.size+i*e.size=off+(l.toNat+i)*e.size from by rw[et];omega];exact pY
 ·simp only[El,Eo,Ep]at kV ⊢
  exact kV
theorem VR.emp{H:Nat→Option bg}{v:Value}:VR w M H ν .emp v↔ ∃ad,v= .slice ad 0 0:=by simp[VR]
theorem VH(hE:EnvTy P E)(hc:Core c σ a.tmps w M ν){t:TypeId}{x:Operand}{lo hi mx:Option Operand}(ho:o.op= .slice t x lo hi mx){K:jb α}{τ:Ty}(ht:E.ty t=some τ)
  (h:qP τ (lo.isNone&&lR hi&&lR mx) (σ.ρ x) (lo.map σ.ρ) (hi.map σ.ρ) (mx.map σ.ρ) σ.H K=some r) (hn:gd c σ a o w M ν K r next):o.wp P a w next Q:=by
 have zW:=hE.ty t τ ht
 have hv:=hc.ev x
 have PM: ∀(e:Ty) (e':TypeId) (ad:Option Addr) (len cap:Nat),P.underlying t=some (.slice e')→kH P e e'→a.eval x= .slice ad len cap→(lo.isNone&&lR hi&&lR mx)=true→
   ∃ad',(execOp a.eval o).run P w= .ok (.value (.slice ad' 0 0)) w:=by
  intro e e' ad len cap hu hle hx hz
  simp only[bQ]at hz
  obtain⟨⟨h1,h2⟩,h3⟩:=hz
  have h1:lo=none:=by simpa using h1
  subst h1
  obtain⟨k2,h2⟩:=Cs h2 a
  obtain⟨k3,h3⟩:=Cs h3 a
  have:=ui (P:=P) (w:=w) ho hu hle hx (l:=0) (h:=0) (m:=0) (.inl ⟨rfl,rfl⟩) (.inr ⟨k2,h2⟩) (.inr ⟨k3,h3⟩) (.inr (by rw[h2];rfl)) ω ω ω ω
  exact⟨_,this⟩
 unfold qP at h
 split at h
 ·rename_i s hx
  obtain⟨hm,h⟩:=cy h
  obtain⟨l,h,xZ⟩:=qU hc h
  obtain⟨hh,h,LA⟩:=qU hc h
  obtain⟨hk,h⟩:=cy h
  rw[zL]at hk
  obtain⟨h0,h1,h2,h3⟩:=bz hk
  rw[hx]at hv
  exact a7 (Hr ho zW.str hv.str xZ LA (by simpa using hm) h0 h1 h2) (hn _ [] [] _ _ _ _ h (.refl hc.mem) (.mkStr _))
 ·rename_i e hx
  obtain⟨e',hu,hle⟩:=zW.slice
  rw[hx]at hv
  obtain⟨ad,hv⟩:=VR.emp.1 hv
  cases hz:(lo.isNone&&lR hi&&lR mx)
  ·rw[hz]at h
   replace h:cond (mx.map σ.ρ).isNone (yC (lo.map σ.ρ) 0 λl=>yC (hi.map σ.ρ) 0 λh=>cond (jY l h 0 0) (K .emp [] []) none) none=some r:=h
   obtain⟨hm,h⟩:=cy h
   obtain⟨l,h,xZ⟩:=qU hc h
   obtain⟨hh,h,LA⟩:=qU hc h
   obtain⟨hk,hK⟩:=cy h
   rw[zL]at hk
   obtain⟨h0,h1,h2,h3⟩:=bz hk
   have jQ:mx=none:=by simpa using hm
   subst jQ
   have:=ui (P:=P) (w:=w) ho hu hle hv xZ LA (.inl ⟨rfl,rfl⟩) (.inl rfl) h0 h1 (m:=0) ω ω
   refine a7 this (hn _ [] [] _ _ _ _ hK (.refl hc.mem) (VR.emp.2 ?_))
   rw[show hh.toNat-l.toNat=0 from by omega,show(0:Int).toNat-l.toNat=0 from by omega]
   exact⟨_,rfl⟩
  ·rw[hz]at h
   obtain⟨ad',dE⟩:=PM e e' ad 0 0 hu hle hv hz
   exact a7 dE (hn _ [] [] _ _ _ _ h (.refl hc.mem) (VR.emp.2 ⟨_,rfl⟩))
 ·rename_i e jy
  obtain⟨e',hu,hle⟩:=zW.slice
  cases hz:(lo.isNone&&lR hi&&lR mx)
  ·rw[hz]at h
   obtain⟨y,rd,ups,M',h,il,hV,_⟩:=n6 (.refl _) hc.mem hv h
   replace h:cond ((mx.map σ.ρ).isNone||(hi.map σ.ρ).isSome) (yC (lo.map σ.ρ) 0 λl=>yC (hi.map σ.ρ) (List.length y:Int) λh=>yC (mx.map σ.ρ) (List.length y:Int) λm=>
    cond (jY l h m (List.length y:Int)) (K (.val (.slice e) (List.drop l.toNat (List.take h.toNat y))) rd ups) none) none=some r:=h
   obtain⟨hm,h⟩:=cy h
   obtain⟨l,h,xZ⟩:=qU hc h
   obtain⟨hh,h,LA⟩:=qU hc h
   obtain⟨m,h,LB⟩:=qU hc h
   obtain⟨hk,h⟩:=cy h
   rw[zL]at hk
   obtain⟨h0,h1,h2,h3⟩:=bz hk
   have hr:=V.slice.1 hV
   have eM:=hr
   simp only[Rd,fh,eS]at eM
   obtain⟨ad,cap,hx,alC,_⟩:=eM
   rw[hx]at hr
   have jQ:(mx.map a.eval).isNone=true∨(hi.map a.eval).isSome=true:=by
    simp only[mY,Option.isNone_map,Option.isSome_map]at hm ⊢;exact hm
   have ag6: ∃m',YW (mx.map a.eval) cap m'∧hh≤m'∧m'≤cap:=by
    rcases LB with⟨h9,_⟩|⟨k,h9⟩
    ·exact⟨cap,.inl ⟨h9,rfl⟩,ω,fI _⟩
    ·exact⟨m,.inr ⟨k,h9⟩,h2,ω⟩
   obtain⟨m',ag6,h4,h5⟩:=ag6
   have dE:=ui (P:=P) (w:=w) ho hu hle hx xZ LA ag6 jQ h0 h1 h4 h5
   refine a7 dE (hn _ _ _ _ _ M' _ h il ?_)
   simp only[VR]
   exact V.slice.2 (hr.cut h0 h1 h4 ω)
  ·rw[hz]at h
   obtain⟨y,rd,h,hS⟩:=Cl hc.mem hv h
   obtain⟨ad,cap,hx,_⟩:=hS
   obtain⟨ad',dE⟩:=PM e e' ad _ cap hu hle hx hz
   exact a7 dE (hn _ _ [] _ _ _ _ h (.refl hc.mem) (VR.emp.2 ⟨_,rfl⟩))
 ·cases h
end VM
end
section
namespace VM
open Go
variable{P:Program}{E:Env}{o:Oper}{a:Act}{w:World}{M:Nat→Prop}{ν:Nat→Value}{σ:St}{c:Ctx}{α:Type}{r:α}{next:Act→World→Prop}{Q:Exit→Act→World→Prop}
theorem sr{t ty e:TypeId}{i:TypeInfo}(ht:P.underlying t=some (.slice e))(hi:P.info? e=some i)(base:Option Addr)(n cap:Nat)(h:n≤cap)(a':Option Addr)(cp:Nat):
  (Builtin.append_ #[t,t] ty #[.slice base n cap,.slice a' 0 cp]).run P w= .ok (.slice base n cap) w:=by
 cases a'<;>cases base<;>simp[Builtin.append_,run_underlying ht,Go.sizeOf,typeInfo,hi,Builtin.lenOf,h,Builtin.firstCells,loadCells,loadCellsFrom,storeCells]
theorem MB{t ty e te:TypeId}{i:TypeInfo}(ht:P.underlying t=some (.slice e))(hi:P.info? e=some i){b n cap m cp:Nat}{a':Addr}{news:List Value}{cs:Array Value}
  (hg:w.heap[b]? =some (.cells cs te (0,0))) (hs:cs.size=cap*i.size) (hl:news.length=m*i.size) (hn: ∀j u,news[j]? =some u→w.cell? (a'.add j)=some u) (h1: ∀u∈news,u.oneCell'=true) (hr:n+m≤cap):
  (Builtin.append_ #[t,t] ty #[.slice (some ⟨b,0,none⟩) n cap,.slice (some a') m cp]).run P w= .ok (.slice (some ⟨b,0,none⟩) (n+m) cap) (w.setRow b (fb cs.toList (n*i.size) news).toArray):=by
 have hf:=run_firstCells_some (P:=P) w i.size m a' m cp news hl hn
 have hm:(n+m)*i.size≤cap*i.size:=lL _ hr
 rw[et]at hm
 have G6:=run_storeCells_at (P:=P) b (n*i.size) te news 0 cs w hg ω h1
 simp only[m0]at G6
 simp[Builtin.append_,run_underlying ht,Go.sizeOf,typeInfo,hi,Builtin.lenOf,hr,hf,Addr.add_lit,G6,fb]
theorem g9{args:Array Operand}{t:TypeId}{x y:Operand}{v:Value}{w':World}(ho:o.op= .call {callee:= .builtin .append,args,argTypes:= #[t,t]})(ha:args.toList=[x,y])
  (h:(Builtin.append_ #[t,t] o.type #[a.eval x,a.eval y]).run P w= .ok v w'):(execOp a.eval o).run P w= .ok (.value v) w':=by
 obtain⟨cs,hr⟩:=qR (P:=P) (ρ:=a.eval) ho (w:=w)
 rw[hr]
 have:args.map a.eval= #[a.eval x,a.eval y]:=by apply jo;simp[ha]
 rw[this]
 simp[builtin,h]
theorem EV{H:Nat→Option bg}(hm:Mem c H w M ν){id:Nat}(bf:H id=none){t ty:TypeId}{e':TypeId}{e:Ty}(hu:P.underlying t=some (.slice e'))(hle:kH P e e')
  {xs ys:List e.den} {olds news:List Value} {base:Option Addr} {cap cp:Nat} {a':Addr} (VI:base=none→xs=[]∧cap=0)
  (xZ:olds.length=xs.length*e.size) (hro:qS w M e olds xs) (ho: ∀b,base=some b→ ∀j u,olds[j]? =some u→w.cell? (b.add j)=some u)
  (YX:news.length=ys.length*e.size) (hrn:qS w M e news ys) (hn: ∀j u,news[j]? =some u→w.cell? (a'.add j)=some u)
  (hg:cap<xs.length+ys.length) (hs:xs.length+ys.length<zK):
  ∃v w' M' ν',(Builtin.append_ #[t,t] ty #[.slice base xs.length cap,.slice (some a') ys.length cp]).run P w= .ok v w'∧Tr c H w M ν (bZ H id (some (.own e (xs++ys)))) w' M' ν'∧ν' id=v:=by
 obtain⟨i,hi,s0,hz,hby⟩:=hle.base
 have hzs:(cK e e.di).cells.size=e.size:=by rw[←bH,gT,oJ]
 have h63:xs.length+ys.length≤maxLen:=by simp only[zK,maxLen]at hs ⊢;omega
 have MC:(xs.length+ys.length)*i.bytes≤140737488355328:=by
  have:(xs.length+ys.length)*i.bytes≤68719476736*2048:=vQ (by simp only[zK]at hs;omega) hby
  omega
 have dE: ∃m7 rest,(Builtin.append_ #[t,t] ty #[.slice base xs.length cap,.slice (some a') ys.length cp]).run P w= .ok (.slice (some ⟨w.heap.size,0,none⟩) (xs.length+ys.length) m7) (w.drew.alloc (.cells (olds++news++rest).toArray e'))∧
   xs.length+ys.length≤m7∧m7≤maxLen∧rest.length=(m7-(xs.length+ys.length))*e.size:=by
  refine⟨grownCap w (xs.length+ys.length) cap e',(Builtin.zeroCells (cK e e.di).cells (grownCap w (xs.length+ys.length) cap e'-(xs.length+ys.length))).toList,?_,grownCap_ge _ _ _ _,grownCap_le_maxLen _ _ _ _ h63,?_⟩
  ·cases base with
   |none=>
    obtain⟨rfl,rfl⟩:=VI rfl
    have ho0:olds=[]:=tV (by rw[xZ];simp)
    subst ho0
    have:=run_append_nil (P:=P) w t ty e' i _ hu hi hz a' ys.length cp news (by rw[YX,s0]) hn (by simpa using hg) (by simp only[zK]at hs;omega) (by simp at MC;omega)
    simp only[bU,gk,cJ]
    rw[this]
    congr 2
    apply fj (λz=>Obj.cells z e' (0,0))
    apply jo;simp
   |some b=>
    have:=run_append_grow (P:=P) w t ty e' i _ hu hi hz b xs.length cap olds (by rw[xZ,s0]) (ho b rfl) a' ys.length cp news (by rw[YX,s0]) hn hg (by simp only[zK]at hs;omega) (growslice_fits hg MC)
    rw[this]
    congr 2
    apply fj (λz=>Obj.cells z e' (0,0))
    apply jo;simp
  ·rw[bH,size_zeroCells,hzs]
 obtain⟨m7,rest,dE,Ly,hc2,alH⟩:=dE
 have hlen:(xs++ys).length=xs.length+ys.length:=aS
 have hd:=Tr.drew hm
 have hon:(olds++news).length=(xs++ys).length*e.size:=by rw[aS,xZ,YX,hlen,et]
 have P8:=Tr.row hd.mem bf e' (e:=e) (cs:=(olds++news++rest).toArray) (l:=xs++ys) (cap:=m7) (by rw[hlen];exact Ly) hc2
  (by rw[iZ,aS,hon,alH,hlen,←et];congr 1;omega)
  (qS.more ((hro.append xZ hrn).ca hd.ca) (by rw[hon];exact aG _))
 refine⟨_,_,_,_,dE,hd.trans P8,?_⟩
 rw[←hlen];simp[dg]
theorem Tb(hE:EnvTy P E)(hc:Core c σ a.tmps w M ν){args:Array Operand}{ts:Array TypeId}{t t':TypeId}{x y:Operand}(ho:o.op= .call {callee:= .builtin .append,args,argTypes:=ts})(ha:args.toList=[x,y])(hts:ts.toList=[t,t']){K:jb α}{e:Ty}
  (ht:E.ty t=some (.slice e)) {id:Nat} (h:cond (Nat.beq t t') (qN σ.H id (.own e []) (Mj id e (σ.ρ x) (σ.ρ y) σ.H K)) none=some r) (hn:gd c σ a o w M ν K r next):o.wp P a w next Q:=by
 obtain⟨htt,h1⟩:=cy h
 clear h
 have htt:=fW htt
 subst htt
 obtain⟨bf,h⟩:=ln h1
 clear h1
 have aq3:ts= #[t,t]:=by apply jo;simpa using hts
 subst aq3
 obtain⟨e',hu,hle⟩:=(hE.ty t _ ht).slice
 obtain⟨i,hi,s0,hz,hby⟩:=hle.base
 have J0:=hc.ev x
 unfold Mj at h
 obtain⟨ys,rd,h,hS⟩:=Cl hc.mem (hc.ev y) h
 have ag9:(ys=[]∧ ∃a' cp,a.eval y= .slice a' 0 cp)∨(ys≠[]∧ ∃a' cp news,a.eval y= .slice (some a') ys.length cp∧news.length=ys.length*e.size∧(∀j u,news[j]? =some u→w.cell? (a'.add j)=some u)∧qS w M e news ys∧ ∀u∈news,u.oneCell'=true):=by
  by_cases hy:ys=[]
  ·left
   obtain⟨a',cp,hv,_⟩:=hS
   exact⟨hy,a',cp,by rw[hv,hy];rfl⟩
  ·right
   obtain⟨b,off,cp,news,hv,hl,pY,kV,h1⟩:=hS.cells hy
   exact⟨hy,⟨b,off,none⟩,cp,news,hv,hl,λj u hj=>by rw[Addr.add_lit];exact pY j u hj,kV,h1⟩
 split at h
 ·
  rename_i hx
  rw[hx]at J0
  obtain⟨ad,J0⟩:=VR.emp.1 J0
  obtain⟨RC,h⟩:=cy h
  rw[EE]at RC
  have RC:=bz RC
  rcases ag9 with⟨rfl,a',cp,Dj⟩|⟨hy,a',cp,news,Dj,hl,pY,kV,h1⟩
  ·refine a7 (g9 ho ha (by rw[J0,Dj];exact sr hu hi ad 0 0 (aG _) a' cp)) (hn _ _ _ _ _ _ _ h (Tr.nothing hc.mem bf e ad) ?_)
   simp only[VR]
   exact⟨by show bZ _ id _ id≠none;rw[ax];simp,by simp[dg]⟩
  ·have Hs:0<ys.length:=si.2 hy
   obtain⟨v,w',M',ν',dE,il,hv⟩:=EV (P:=P) (ty:=o.type) hc.mem bf hu hle (xs:=[]) (ys:=ys) (olds:=[]) (news:=news) (base:=ad) (cap:=0) (cp:=cp) (a':=a') (λ_=>⟨rfl,rfl⟩) (by simp) (λi hi=>absurd hi (by simp)) (λ_ _ j u hj=>by simp at hj)
    hl kV pY (by simpa using Hs) (by simpa using RC)
   refine a7 (g9 ho ha (by rw[J0,Dj];exact dE)) (hn _ _ _ _ _ _ _ h il ?_)
   simp only[VR]
   exact⟨by show bZ _ id _ id≠none;rw[ax];simp,hv.symm⟩
 ·
  rename_i j hx
  rw[hx]at J0
  simp only[VR]at J0
  obtain⟨_,J0⟩:=J0
  split at h
  ·rename_i e1 l hj
   obtain⟨e2,h⟩:=bC h
   cases e2
   obtain⟨RC,h⟩:=cy h
   rw[EE]at RC
   have RC:l.length+ys.length<zK:=bz RC
   have jy:id≠j:=λe=>by rw[e,hj]at bf;cases bf
   have pt:bZ σ.H j (some .gone) id=none:=by rw[az _ _ jy];exact bf
   have PN:=Tr.gone hc.mem j
   have mJ:=hc.mem.kZ j _ hj
   simp only[ER]at mJ
   rcases mJ with⟨rfl,ad,hjv⟩|⟨b,cs,te,cap,hjv,hg,hM,U9,hl,G1,hs,hr⟩
   ·rw[hjv]at J0
    rcases ag9 with⟨rfl,a',cp,Dj⟩|⟨hy,a',cp,news,Dj,hl,pY,kV,h1⟩
    ·refine a7 (g9 ho ha (by rw[J0,Dj];exact sr hu hi ad 0 0 (aG _) a' cp)) (hn _ _ _ _ _ _ _ h (PN.trans (Tr.nothing PN.mem pt e ad)) ?_)
     simp only[VR]
     exact⟨by show bZ _ id _ id≠none;rw[ax];simp,by simp[dg]⟩
    ·have Hs:0<ys.length:=si.2 hy
     obtain⟨v,w',M',ν',dE,il,hv⟩:=EV (P:=P) (ty:=o.type) PN.mem pt hu hle (xs:=[]) (ys:=ys) (olds:=[]) (news:=news) (base:=ad) (cap:=0) (cp:=cp) (a':=a') (λ_=>⟨rfl,rfl⟩) (by simp) (λi hi=>absurd hi (by simp)) (λ_ _ j u hj=>by simp at hj)
      hl kV pY (by simpa using Hs) (by simpa using RC)
     refine a7 (g9 ho ha (by rw[J0,Dj];exact dE)) (hn _ _ _ _ _ _ _ h (PN.trans il) ?_)
     simp only[VR]
     exact⟨by show bZ _ id _ id≠none;rw[ax];simp,hv.symm⟩
   ·rw[hjv]at J0
    have Mt:cs.toList.length=cap*e.size:=by rw[bH,hs]
    have G9:l.length*e.size≤cap*e.size:=lL _ hl
    rcases ag9 with⟨rfl,a',cp,Dj⟩|⟨hy,a',cp,news,Dj,YX,pY,kV,h1⟩
    ·refine a7 (g9 ho ha (by rw[J0,Dj];exact sr hu hi _ _ cap hl a' cp)) (hn _ _ _ _ _ M (dg ν id (ν j)) h ?_ ?_)
     ·refine Tr.rename hc.mem hj bf (.inr rfl) ?_
      rw[ch]
      exact hc.mem.kZ j _ hj
     ·simp only[VR]
      exact⟨by show bZ _ id _ id≠none;rw[ax];simp,by simp[dg,hjv]⟩
    ·by_cases z8:l.length+ys.length≤cap
     ·have hmul:(l.length+ys.length)*e.size≤cap*e.size:=lL _ z8
      rw[et]at hmul
      have dE:=MB (P:=P) (ty:=o.type) hu hi (w:=w) (b:=b) (n:=l.length) (cap:=cap) (m:=ys.length) (cp:=cp) (a':=a') (news:=news) (cs:=cs) hg (by rw[hs,s0]) (by rw[YX,s0]) pY h1 z8
      rw[s0]at dE
      have Zl:fb cs.toList (l.length*e.size) news=(cs.toList.take (l.length*e.size)++news)++cs.toList.drop (l.length*e.size+news.length):=rfl
      have hold:qS w M e (cs.toList.take (l.length*e.size)) l:=qS.take hr (aG _)
      have htl:(cs.toList.take (l.length*e.size)).length=l.length*e.size:=by rw[cc];omega
      have afP:qS w M e (fb cs.toList (l.length*e.size) news) (l++ys):=by
       rw[Zl]
       refine qS.more (hold.append htl kV) ?_
       rw[aS,aS,htl,YX,et];exact aG _
      have Ht:(fb cs.toList (l.length*e.size) news).length=cap*e.size:=by rw[gD ω];exact Mt
      have Zu:Tr c σ.H w M ν (bZ σ.H j (some (.own e l))) (w.setRow b (fb cs.toList (l.length*e.size) news).toArray) M ν:=by
       refine Tr.write (e':= .own e l) hc.mem hj trivial trivial (.refl _) (by rw[hjv];simp[fL];omega) hg λPK hk Bn=> ?_
       simp only[ER]
       refine .inr ⟨b,_,te,cap,hjv,setRow_heap w b cs _ te _ hg,Bn,U9,hl,G1,by rw[iZ];exact Ht,λk DS=> ?_⟩
       have:=(afP k (by rw[aS];omega)).ca hk
       rw[Ee DS]at this
       exact this
      rw[Bl hj]at Zu
      have wi:Tr c σ.H (w.setRow b (fb cs.toList (l.length*e.size) news).toArray) M ν (bZ (bZ σ.H j (some .gone)) id (some (.own e (l++ys)))) (w.setRow b (fb cs.toList (l.length*e.size) news).toArray) M (dg ν id (.slice (some ⟨b,0,none⟩) (l++ys).length cap)):=by
       refine Tr.rename Zu.mem hj bf (.inr (by rw[hjv];simp[fL])) ?_
       simp only[ER]
       refine .inr ⟨b,_,te,cap,rfl,setRow_heap w b cs _ te _ hg,hM,U9,by rw[aS];exact z8,G1,by rw[iZ];exact Ht,(afP.ca Zu.ca)⟩
      refine a7 (g9 ho ha (by rw[J0,Dj];exact dE)) (hn _ _ _ _ _ _ _ h (Zu.trans wi) ?_)
      simp only[VR]
      exact⟨by show bZ _ id _ id≠none;rw[ax];simp,by simp[dg]⟩
     ·obtain⟨v,w',M',ν',dE,il,hv⟩:=EV (P:=P) (ty:=o.type) PN.mem pt hu hle (xs:=l) (ys:=ys) (olds:=cs.toList.take (l.length*e.size)) (news:=news) (base:=some ⟨b,0,none⟩) (cap:=cap) (cp:=cp) (a':=a') (λh=>by cases h)
       (by rw[cc];omega) (qS.take hr (aG _)) (λb' eY k u hk=>by
        cases eY
        rw[Addr.add_lit,cell_of hg]
        rw[lO]at hk
        split at hk
        ·rw[←gR];simpa using hk
        ·cases hk)
       YX kV pY ω RC
      refine a7 (g9 ho ha (by rw[J0,Dj];exact dE)) (hn _ _ _ _ _ _ _ h (PN.trans il) ?_)
      simp only[VR]
      exact⟨by show bZ _ id _ id≠none;rw[ax];simp,hv.symm⟩
  ·cases h
 ·cases h
end VM
end
section
namespace VM
open Go
variable{P:Program}{E:Env}{o:Oper}{a:Act}{w:World}{M:Nat→Prop}{ν:Nat→Value}{σ:St}{c:Ctx}{α:Type}{r:α}{next:Act→World→Prop}{Q:Exit→Act→World→Prop}
def s4:{m:AM}→{ms:List AM}→HP (m::ms)→m.den
 |_,[],x=>x
 |_,_::_,x=>x.1
def ya:{m:AM}→{ms:List AM}→HP (m::ms)→HP ms
 |_,[],_=>()
 |_,_::_,x=>x.2
def AM.iE:AM→Bool
 | .io _| .lo _=>true
 |_=>false
def AM.Zv:AM→Bool
 | .fn _ _| .jn _=>true
 |_=>false
def A1(w:World)(M:Nat→Prop):(m:AM)→m.den→Value→Prop
 | .v τ,x,v=>V w M τ v x
 | .own e,x,v=>ER w M v (.own e x)
 | .io τ,x,v=>ER w M v (.obj τ x)
 | .fn f τ,x,v=>VR w M (λ_=>none) (λ_=>undef) (.Mf f (pM τ x)) v
 | .ptr τ,x,v=>ER w M v (.obj τ x)
 | .jn τ,x,v=>VR w M (λ_=>none) (λ_=>undef) (.qM τ x) v
 | .lo e,x,v=>ER w M v (.own e x)
def jH(w:World)(M:Nat→Prop):(ms:List AM)→HP ms→List Value→Prop
 |[],_,vs=>vs=[]
 |_::ms,x,vs=> ∃v LC,vs=v::LC∧A1 w M _ (s4 x) v∧jH w M ms (ya x) LC
def c9:AM→Value→List Nat
 | .own _,v| .io _,v| .ptr _,v| .lo _,v=>(fL v).toList
 |_,_=>[]
def dO:List AM→List Value→List Nat
 |m::ms,v::vs=>c9 m v++dO ms vs
 |_,_=>[]
def fm:List AM→List Value→List Value
 |m::ms,v::vs=>if m.iE then v::fm ms vs else fm ms vs
 |_,_=>[]
def m8:List AM→List AM
 | .io τ::ms=> .io τ::m8 ms
 | .lo e::ms=> .lo e::m8 ms
 |_::ms=>m8 ms
 |[]=>[]
def RR(w:World)(M:Nat→Prop):(ms:List AM)→HP ms→List Value→List Value→Prop
 |[],_,vs,ps=>vs=[]∧ps=[]
 |m::ms,x,vs,ps=>(∃p Ha,m.iE=true∧ps=p::Ha∧A1 w M m (s4 x) p∧RR w M ms (ya x) vs Ha)∨
  (∃v LC,m.iE=false∧m.Zv=false∧vs=v::LC∧A1 w M m (s4 x) v∧RR w M ms (ya x) LC ps)
def bF:List AM→List Value→List Value→List Nat
 |[],_,_=>[]
 |m::ms,vs,ps=>if m.iE then c9 m (ps.headD undef)++bF ms vs ps.tail else c9 m (vs.headD undef)++bF ms vs.tail ps
def Ty.flat:Ty→Bool
 | .slice _=>false
 | .pair a b=>a.flat&&b.flat
 | .arr _ e=>e.flat
 |_=>true
def AM.flat:AM→Bool
 | .v τ| .io τ| .own τ| .ptr τ| .lo τ=>τ.flat
 | .fn _ _| .jn _=>false
def wo(vs:List Value):Value:=if h:vs.length=1 then vs[0]else .tuple vs.toArray
structure Left(w:World)(M0:Nat→Prop)(hs:List Nat)(w':World)(M':Nat→Prop):Prop where
 sub: ∀b,M0 b→M' b
 EH: ∀b,M' b→b<w'.heap.size
 less: ∀b,b<w.heap.size→M' b→M0 b∨b∈hs
 frame: ∀b,b<w.heap.size→b∉hs→w'.heap[b]? =w.heap[b]?
 size:w.heap.size≤w'.heap.size
 os:w'.os=w.os
 tape:w'.tape=w.tape
 output:w'.output=w.output
def MD(P:Program)(f:FuncId)(args:Array Value)(w:World)(R:Value→World→Prop):Prop:=
 ∀(o:Oper) (a:Act) (next:Act→World→Prop) (Q:Exit→Act→World→Prop),(∀v w',R v w'→next (a.put o.dst v) w')→o.upon P a next Q ((callFunc f args).run P w)
theorem MD.mono{f:FuncId}{args:Array Value}{R R':Value→World→Prop}(h:MD P f args w R)(hr: ∀v w',R v w'→R' v w'):MD P f args w R':=
 λo a next Q hn=>h o a next Q λv w' hv=>hn v w' (hr v w' hv)
theorem sT{f:FuncId}{fn:Func}{args:Array Value}{R:Value→World→Prop}(hf:P.funcs[f]? =some fn)(hn:(fn.name== "runtime.NumGoroutine")=false)(hb:fn.body.isNone=false)
  (h:Calls P f args w λe w'=> ∃v,e= .returned v∧R v w'):MD P f args w R:=by
 intro o a next Q wq
 have hn': ¬fn.name= "runtime.NumGoroutine" :=by simpa using hn
 have eY: ¬fn.body=none:=λe=>by rw[e]at hb;cases hb
 have:(callFunc f args).run P w= .ok (.enter f args) w:=by simp[callFunc,hf,hn',eY]
 rw[this,Oper.upon_enter]
 refine Calls.mono h ?_
 rintro e w' ⟨v,rfl,hR⟩
 exact wq v w' hR
theorem Hu{f:FuncId}{args:Array Value}{R:Value→World→Prop}{v:Value}{w':World}(h:(callFunc f args).run P w= .ok (.value v) w')(hR:R v w'):MD P f args w R:=by
 intro o a next Q wq
 rw[h,Oper.upon_value]
 exact wq v w' hR
structure iF(P:Program)(f:FuncId)(S:lW):Prop where
 quiet:S.quiet=true→S.res.all AM.flat=true
 ios:m8 S.args=m8 S.res
 call: ∀(M0:Nat→Prop) (w:World) (vs:List Value) (x:HP S.args) (y:HP S.res),(∀b,M0 b→b<w.heap.size)→
  jH w (λb=>M0 b∨b∈dO S.args vs) S.args x vs→(dO S.args vs).Nodup→(∀b∈dO S.args vs,¬M0 b)→S.run x=some y→
  MD P f vs.toArray w λv w'=> ∃us M',v=wo us∧RR w' M' S.res y us (fm S.args vs)∧Left w M0 (dO S.args vs) w' M'∧
   (bF S.res us (fm S.args vs)).Nodup∧ ∀b∈bF S.res us (fm S.args vs),¬M0 b
theorem Rd.flat{w:World}{M M':Nat→Prop}: ∀{τ:Ty} {cs:List Value} {x:τ.den},τ.flat=true→Rd w M τ cs x→Rd w M' τ cs x
 | .int _,_,_,_,h| .bool,_,_,_,h| .str,_,_,_,h| .unit,_,_,_,h=>h
 | .slice _,_,_,hf,_=>by simp[Ty.flat]at hf
 | .pair a b,_,_,hf,h=>by
  simp only[Ty.flat,bQ]at hf
  simp only[Rd]at h ⊢
  obtain⟨c1,c2,rfl,h1,h2⟩:=h
  exact⟨c1,c2,rfl,h1.flat hf.1,h2.flat hf.2⟩
 | .arr n e,_,x,hf,h=>by
  simp only[Ty.flat]at hf
  simp only[Rd]at h ⊢
  obtain⟨hn,SZ,hc,rfl,hr⟩:=h
  exact⟨hn,SZ,hc,rfl,λi hi m4=>(hr i hi m4).flat hf⟩
theorem A1.flat{w:World}{M M':Nat→Prop}(hM: ∀b,M b→M' b){m:AM}{x:m.den}{v:Value}(hf:m.flat=true)(h:A1 w M m x v):A1 w M' m x v:=by
 cases m with
 |v τ=>
  simp only[A1,V,AM.flat]at h hf ⊢
  split
  ·rename_i ha;rw[aj ha]at h;obtain⟨cs,h1,h⟩:=h;exact⟨cs,h1,h.flat hf⟩
  ·rename_i ha;rw[ah ha]at h;exact h.flat hf
 |own e=>
  simp only[A1,ER,AM.flat]at h hf ⊢
  rcases h with h|⟨b,cs,t,cap,h1,h2,h3,h4,h5,h6,h7,h8⟩
  ·exact .inl h
  ·exact .inr ⟨b,cs,t,cap,h1,h2,hM b h3,h4,h5,h6,h7,λi hi=>(h8 i hi).flat hf⟩
 |io τ=>
  simp only[A1,ER,AM.flat]at h hf ⊢
  obtain⟨b,cs,t,h1,h2,h3,h4⟩:=h
  exact⟨b,cs,t,h1,h2,hM b h3,h4.flat hf⟩
 |fn f τ=>simp[AM.flat]at hf
 |jn τ=>simp[AM.flat]at hf
 |lo e=>
  simp only[A1,ER,AM.flat]at h hf ⊢
  rcases h with h|⟨b,cs,t,cap,h1,h2,h3,h4,h5,h6,h7,h8⟩
  ·exact .inl h
  ·exact .inr ⟨b,cs,t,cap,h1,h2,hM b h3,h4,h5,h6,h7,λi hi=>(h8 i hi).flat hf⟩
 |ptr τ=>
  simp only[A1,ER,AM.flat]at h hf ⊢
  obtain⟨b,cs,t,h1,h2,h3,h4⟩:=h
  exact⟨b,cs,t,h1,h2,hM b h3,h4.flat hf⟩
theorem RR.flat{w:World}{M M':Nat→Prop}(hM: ∀b,M b→M' b): ∀{ms:List AM} {x:HP ms} {vs ps:List Value},ms.all AM.flat=true→RR w M ms x vs ps→RR w M' ms x vs ps
 |[],_,_,_,_,h=>h
 |m::ms,x,vs,ps,hf,h=>by
  simp only[Ey,bQ]at hf
  simp only[RR]at h ⊢
  rcases h with⟨p,Ha,h1,h2,h3,h4⟩|⟨v,LC,h1,h2,h3,h4,h5⟩
  ·exact .inl ⟨p,Ha,h1,h2,h3.flat hM hf.1,RR.flat hM hf.2 h4⟩
  ·exact .inr ⟨v,LC,h1,h2,h3,h4.flat hM hf.1,RR.flat hM hf.2 h5⟩
theorem A1.wu{w w':World}{M M':Nat→Prop}(k:e8 w M w' M'){m:AM}{x:m.den}{v:Value}(hm: ∀b∈c9 m v,w'.heap[b]? =w.heap[b]? ∧M' b)(h:A1 w M m x v):A1 w' M' m x v:=by
 cases m with
 |v τ=>exact V.ca k h
 |own e=>
  simp only[A1]at h ⊢
  exact ER.ca k (λ_ b hb=>hm b (by simp[c9,hb])) h
 |io τ=>
  simp only[A1]at h ⊢
  exact ER.ca k (λ_ b hb=>hm b (by simp[c9,hb])) h
 |fn f τ=>exact VR.ca k (.refl _ _) h
 |jn τ=>exact VR.ca k (.refl _ _) h
 |lo e=>
  simp only[A1]at h ⊢
  exact ER.ca k (λ_ b hb=>hm b (by simp[c9,hb])) h
 |ptr τ=>
  simp only[A1]at h ⊢
  exact ER.ca k (λ_ b hb=>hm b (by simp[c9,hb])) h
theorem jH.wu{w w':World}{M M':Nat→Prop}(k:e8 w M w' M'): ∀{ms:List AM} {x:HP ms} {vs:List Value},(∀b∈dO ms vs,w'.heap[b]? =w.heap[b]? ∧M' b)→jH w M ms x vs→jH w' M' ms x vs
 |[],_,_,_,h=>h
 |m::ms,x,vs,hm,h=>by
  simp only[jH]at h ⊢
  obtain⟨v,LC,rfl,h1,h2⟩:=h
  exact⟨v,LC,rfl,h1.wu k (λb hb=>hm b (by simp[dO,hb])),jH.wu k (λb hb=>hm b (by simp[dO,hb])) h2⟩
theorem RR.wu{w w':World}{M M':Nat→Prop}(k:e8 w M w' M'): ∀{ms:List AM} {x:HP ms} {us ps:List Value},(∀b∈bF ms us ps,w'.heap[b]? =w.heap[b]? ∧M' b)→RR w M ms x us ps→RR w' M' ms x us ps
 |[],_,_,_,_,h=>h
 |m::ms,x,us,ps,hm,h=>by
  simp only[RR]at h ⊢
  rcases h with⟨p,Ha,h1,rfl,h2,h3⟩|⟨v,J4,h1,h2,rfl,h3,h4⟩
  ·simp only[bF,h1,gB,s9,tb,a8]at hm
   exact .inl ⟨p,Ha,h1,rfl,h2.wu k (λb hb=>hm b (.inl hb)),RR.wu k (λb hb=>hm b (.inr hb)) h3⟩
  ·simp only[bF,h1,iY,eT,s9,tb,a8]at hm
   exact .inr ⟨v,J4,h1,h2,rfl,h3.wu k (λb hb=>hm b (.inl hb)),RR.wu k (λb hb=>hm b (.inr hb)) h4⟩
theorem DU{H:Nat→Option bg}(hm:Mem c H w M ν){a:bD}{v:Value}(hv:VR w M H ν a v){τ:Ty}{k:τ.den→List Nat→iX→Option α}{r:α}(h:lV true a H τ k=some r):
  ∃y rd ups,k y rd ups=some r∧((ups=[]∧V w M τ v y)∨ ∃id e l,ups=[(id,some (.oH e l))]∧H id=some (.own e l)∧
   ∀M',(∀b,M' b↔(M b∧fL (ν id)≠some b))→V w M' τ v y):=by
 unfold lV at h
 split at h
 ·obtain⟨e,h⟩:=bC h
  subst e
  simp only[VR]at hv
  exact⟨_,[],[],h,.inl ⟨rfl,hv⟩⟩
 ·obtain⟨e,h⟩:=bC h
  subst e
  simp only[VR]at hv
  exact⟨_,[],[],h,.inl ⟨rfl,hv.1⟩⟩
 ·split at h
  ·rename_i e k' _
   simp only[VR]at hv
   obtain⟨a,rfl⟩:=hv
   refine⟨[],[],[],h,.inl ⟨rfl,V.slice.2 ?_⟩⟩
   simp only[Rd]
   exact⟨a,0,rfl,aG _,λi hi=>absurd hi (by simp)⟩
  ·cases h
 ·rename_i id
  simp only[VR]at hv
  obtain⟨_,rfl⟩:=hv
  split at h
  ·rename_i e l bf
   obtain⟨e',h⟩:=bC h
   subst e'
   refine⟨_,_,_,h,.inr ⟨id,e,l,rfl,bf,λM' hM'=> ?_⟩⟩
   obtain⟨M2,_,hV,JW⟩:=Tr.freeze hm bf
   have:M'=M2:=by funext b;exact propext ((hM' b).trans (JW b).symm)
   rw[this];exact hV
  ·rename_i e l bf
   obtain⟨e',h⟩:=bC h
   subst e'
   have:=hm.kZ id _ bf
   simp only[ER]at this
   exact⟨_,_,_,h,.inl ⟨rfl,V.slice.2 this.1⟩⟩
  ·cases h
 ·cases h
theorem VJ{H:Nat→Option bg}(hm:Mem c H w M ν): ∀{a:Ty} {x:bD} {v:Value} {k:a.den→List Nat→iX→Option α} {r:α},VR w M H ν x v→Cg x H a k=some r→
  ∃y rd ups,k y rd ups=some r∧(ups=[]→VR w M (λ_=>none) (λ_=>undef) (Ch a y) v):=by
 intro a x v k r hv h
 unfold Cg at h
 split at h
 ·rename_i a k
  split at h
  ·rename_i υ z
   obtain⟨e1,h⟩:=bC h
   subst e1
   refine⟨_,_,_,h,λ_=> ?_⟩
   simp only[Ch,VR]at hv ⊢
   exact hv
  ·cases h
 ·rename_i k0 vD
  obtain⟨y,rd,ups,h,hy⟩:=DU hm hv h
  refine⟨y,rd,ups,h,λhu=> ?_⟩
  rcases hy with⟨_,hy⟩|⟨_,_,_,h3,_⟩
  ·have:Ch _ y= .val _ y:=by
    unfold Ch
    split
    ·exact(vD _ _ rfl HEq.rfl).elim
    ·rfl
   rw[this]
   simp only[VR];exact hy
  ·rw[hu]at h3;cases h3
theorem EW{H:Nat→Option bg}(hm:Mem c H w M ν): ∀{τ:Ty} {pW:List bD} {vs:List Value} {k:τ.den→List Nat→iX→Option α} {r:α},jq w M H ν pW vs→qO H τ pW k=some r→
  ∃x rd ups,k x rd ups=some r∧(ups=[]→jq w M (λ_=>none) (λ_=>undef) (pM τ x) vs)
 | .unit,[],[],k,r,_,h=>⟨(),[],[],h,λ_=>by simp[pM,jq]⟩
 | .pair a b,x::xs,v::vs,k,r,hv,h=>by
  simp only[jq]at hv
  unfold qO at h
  obtain⟨y,rd,ups,h,hy⟩:=VJ hm hv.1 h
  obtain⟨ys,Bj,nZ,h,hys⟩:=EW hm hv.2 h
  refine⟨(y,ys),_,_,h,λhu=> ?_⟩
  have h1:ups=[]:=(L7.1 hu).1
  have h2:nZ=[]:=(L7.1 hu).2
  simp only[pM,jq]
  exact⟨hy h1,hys h2⟩
 | .unit,[],_::_,_,_,hv,_=>by simp[jq]at hv
 |_,_::_,[],_,_,hv,_=>by simp[jq]at hv
 | .unit,_::_,_,_,_,_,h=>by simp[qO]at h
 | .pair _ _,[],_,_,_,_,h=>by simp[qO]at h
 | .int _,_,_,_,_,_,h| .bool,_,_,_,_,_,h| .str,_,_,_,_,_,h| .slice _,_,_,_,_,_,h| .arr _ _,_,_,_,_,_,h=>by simp[qO]at h
end VM
end
section
namespace VM
open Go
variable{P:Program}{E:Env}{o:Oper}{a:Act}{w:World}{M:Nat→Prop}{ν:Nat→Value}{σ:St}{c:Ctx}{α:Type}{r:α}{next:Act→World→Prop}{Q:Exit→Act→World→Prop}
def keys{β:Type}(l:List (Nat×β)):List Nat:=l.map (·.1)
theorem ly{i:Nat}: ∀{ups:iX} {H:Nat→Option bg},i∉keys ups→c4 H ups i=H i
 |[],_,_=>rfl
 |u::r,H,h=>by
  simp only[keys,bX,aW,not_or]at h
  show c4 (bZ H u.1 u.2) r i=_
  rw[ly h.2,az _ _ h.1]
theorem Aa(u:Nat×Option bg)(b:iX)(hb:u.1∉keys b): ∀(a:iX) (H:Nat→Option bg),c4 H (a++u::b)=bZ (c4 H (a++b)) u.1 u.2
 |[],H=>by
  show c4 (bZ H u.1 u.2) b=bZ (c4 H b) u.1 u.2
  induction b generalizing H with
  |nil=>rfl
  |cons v b ih=>
   simp only[keys,bX,aW,not_or]at hb
   show c4 (bZ (bZ H u.1 u.2) v.1 v.2) b=bZ (c4 (bZ H v.1 v.2) b) u.1 u.2
   rw[←ih hb.2]
   congr 1
   funext i
   by_cases h1:i=v.1
   ·subst h1;rw[ax,az _ _ (eH hb.1),ax]
   ·by_cases h2:i=u.1
    ·subst h2;rw[az _ _ h1,ax,ax]
    ·rw[az _ _ h1,az _ _ h2,az _ _ h2,az _ _ h1]
 |v::a,H=>Aa u b hb a (bZ H v.1 v.2)
def IoE(H:Nat→Option bg)(q:Nat×AM):Prop:=(∃(τ:Ty) (x:τ.den),q.2= .io τ∧H q.1=some (.obj τ x))∨ ∃(e:Ty) (l:List e.den),q.2= .lo e∧H q.1=some (.own e l)
theorem IoE.some{H:Nat→Option bg}{q:Nat×AM}(h:IoE H q):H q.1≠none:=by
 rcases h with⟨_,x,_,h⟩|⟨e,l,_,h⟩<;>rw[h]<;>simp
structure jI(c:Ctx)(w:World)(M:Nat→Prop)(ν:Nat→Value)(H0 H1 Hq:Nat→Option bg)(M1:Nat→Prop)(uo uf:iX)(io:List (Nat×AM))(hs:List Nat):Prop where
 mem:Mem c H1 w M1 ν
 ME:Mem c Hq w M ν
 ca:e8 w M w M1
 ext: ∀i,i∉keys io→c4 H0 (uo++uf) i=H1 i
 VK: ∀i,i∉keys io→c4 H0 uo i=Hq i
 Tc: ∀q∈io,H1 q.1=some .gone∧Hq q.1=some .gone∧IoE H0 q
 ion:(keys io).Nodup
 ks: ∀i∈keys (uo++uf),∀e l,H1 i≠some (.own e l)
 ksn: ∀i∈keys (uo++uf),i∉keys io∧ ∃e l,H0 i=some (.own e l)
 fz:Fz Hq H1
 uov: ∀u∈uo,u.2=some .gone
 ufv: ∀u∈uf,∃e l,u.2=some (.oH e l)∧H0 u.1=some (.own e l)
 nd:hs.Nodup
 hM: ∀b∈hs,M1 b
 MF: ∀b∈hs,c.B≤b∨c.may b
 none: ∀b∈hs,∀i e,Hq i=some e→e.mut→fL (ν i)≠some b
 iob: ∀b∈hs,c.M0 b→ ∃q∈io,fL (ν q.1)=some b
 same: ∀i,i∉keys (uo++uf)→i∉keys io→H1 i=H0 i
theorem jI.start{H:Nat→Option bg}(hm:Mem c H w M ν):jI c w M ν H H H M [] [] [] []:=
 ⟨hm,hm,.refl w M,λ_ _=>rfl,λ_ _=>rfl,λq hq=>by simp at hq,by simp[keys],λi hi=>by simp[keys]at hi,λi hi=>by simp[keys]at hi,.refl H,λu hu=>by simp at hu,λu hu=>by simp at hu,by simp,λb hb=>by simp at hb,λb hb=>by simp at hb,λb hb=>by simp at hb,λb hb=>by simp at hb,λ_ _ _=>rfl⟩
theorem Fz.Zw{H H1:Nat→Option bg}(h:Fz H H1){i:Nat}{e:Ty}{l:List e.den}(hi:H1 i=some (.own e l)):H i=some (.own e l):=by
 rcases h i with h'|⟨e',l',_,h'⟩
 ·rw[←h',hi]
 ·rw[hi]at h';cases h'
theorem Fz.alL{H H1:Nat→Option bg}(h:Fz H H1){i:Nat}{e:Ty}{l:e.den}(hi:H1 i=some (.obj e l)):H i=some (.obj e l):=by
 rcases h i with h'|⟨e',l',_,h'⟩
 ·rw[←h',hi]
 ·rw[hi]at h';cases h'
theorem Fz.mut{H H1:Nat→Option bg}(h:Fz H H1){i:Nat}{e:bg}(hi:H1 i=some e)(hm:e.mut):H i=some e:=by
 cases e with
 |obj=>exact h.alL hi
 |gh=>
  rcases h i with h'|⟨e',l',_,h'⟩
  ·rw[←h',hi]
  ·rw[hi]at h';cases h'
 |own=>exact h.Zw hi
 |oH=>simp[bg.mut]at hm
 |gone=>simp[bg.mut]at hm
theorem jI.freeze{H0 H1 Hq:Nat→Option bg}{M1:Nat→Prop}{uo uf:iX}{io:List (Nat×AM)}{hs:List Nat}(h:jI c w M ν H0 H1 Hq M1 uo uf io hs){id:Nat}{e:Ty}{l:List e.den}(bf:H1 id=some (.own e l)):
  ∃M2,jI c w M ν H0 (bZ H1 id (some (.oH e l))) Hq M2 uo ((id,some (.oH e l))::uf) io hs∧e8 w M1 w M2∧(∀b,M2 b↔(M1 b∧fL (ν id)≠some b)):=by
 obtain⟨M2,il,_,JW⟩:=Tr.freeze h.mem bf
 have vf:id∉keys io:=λhk=>by
  obtain⟨q,hq,rfl⟩:=cA.1 hk
  have:=(h.Tc q hq).1
  rw[bf]at this;cases this
 have Vb:id∉keys (uo++uf):=λhk=>h.ks id hk e l bf
 have ahc:id∉keys uf:=λhk=>Vb (by simp only[keys,cY,a8];exact .inr hk)
 have h0:H0 id=some (.own e l):=by rw[←h.same id Vb vf];exact bf
 have hq:Hq id=some (.own e l):=h.fz.Zw bf
 have lq: ∀i,i∈keys (uo++(id,some (bg.oH e l))::uf)↔i=id∨i∈keys (uo++uf):=by
  intro i
  simp only[keys,cY,bX,a8,aW]
  constructor
  ·rintro(h|h|h)
   ·exact .inr (.inl h)
   ·exact .inl h
   ·exact .inr (.inr h)
  ·rintro(h|h|h)
   ·exact .inr (.inl h)
   ·exact .inl h
   ·exact .inr (.inr h)
 refine⟨M2,⟨il.mem,h.ME,h.ca.trans il.ca,λi hi=> ?_,h.VK,λq nN=> ?_,h.ion,λi hi e' l'=> ?_,λi hi=> ?_,λi=> ?_,h.uov,λu hu=> ?_,h.nd,λb hb=> ?_,h.MF,h.none,h.iob,λi hi m4=> ?_⟩,il.ca,JW⟩
 ·rw[Aa _ _ ahc]
  by_cases bY:i=id
  ·subst bY;rw[ax,ax]
  ·rw[az _ _ bY,az _ _ bY];exact h.ext i hi
 ·obtain⟨h1,h2,h3⟩:=h.Tc q nN
  have jy:q.1≠id:=λe=>vf (e▸eL nN)
  exact⟨by rw[az _ _ jy];exact h1,h2,h3⟩
 ·by_cases bY:i=id
  ·subst bY;rw[ax];intro h';cases h'
  ·rw[az _ _ bY]
   exact h.ks i (((lq i).1 hi).resolve_left bY) e' l'
 ·rcases(lq i).1 hi with rfl|hi
  ·exact⟨vf,e,l,h0⟩
  ·exact h.ksn i hi
 ·by_cases bY:i=id
  ·subst bY;exact .inr ⟨e,l,hq,ax _ _ _⟩
  ·rw[az _ _ bY];exact h.fz i
 ·rcases aW.1 hu with rfl|hu
  ·exact⟨e,l,rfl,h0⟩
  ·exact h.ufv u hu
 ·exact(JW b).2 ⟨h.hM b hb,λeY=>h.none b hb id _ hq trivial eY⟩
 ·have jy:i≠id:=λe=>hi ((lq i).2 (.inl e))
  rw[az _ _ jy]
  exact h.same i (λh'=>hi ((lq i).2 (.inr h'))) m4
theorem jI.hand{H0 H1 Hq:Nat→Option bg}{M1:Nat→Prop}{uo uf:iX}{io:List (Nat×AM)}{hs:List Nat}(h:jI c w M ν H0 H1 Hq M1 uo uf io hs){id:Nat}{e:Ty}{l:List e.den}(bf:H1 id=some (.own e l)):
  jI c w M ν H0 (bZ H1 id (some .gone)) (bZ Hq id (some .gone)) M1 ((id,some .gone)::uo) uf io (hs++(fL (ν id)).toList):=by
 have vf:id∉keys io:=λhk=>by
  obtain⟨q,hq,rfl⟩:=cA.1 hk
  have:=(h.Tc q hq).1
  rw[bf]at this;cases this
 have Vb:id∉keys (uo++uf):=λhk=>h.ks id hk e l bf
 have ahc:id∉keys uo:=λhk=>Vb (by simp only[keys,cY,a8];exact .inl hk)
 have h0:H0 id=some (.own e l):=by rw[←h.same id Vb vf];exact bf
 have hq:Hq id=some (.own e l):=h.fz.Zw bf
 have lq: ∀i,i∈keys ((id,some bg.gone)::uo++uf)↔i=id∨i∈keys (uo++uf):=by
  intro i
  simp only[keys,cY,bX,kF,a8,aW]
 have zX: ∀b,fL (ν id)=some b→b∉hs:=λb hb eY=>h.none b eY id _ hq trivial hb
 refine⟨(Tr.gone h.mem id).mem,(Tr.gone h.ME id).mem,h.ca,λi hi=> ?_,λi hi=> ?_,λq nN=> ?_,h.ion,λi hi e' l'=> ?_,λi hi=> ?_,λi=> ?_,λu hu=> ?_,h.ufv,?_,λb hb=> ?_,λb hb=> ?_,λb hb i e' hi hm=> ?_,λb hb YY=> ?_,λi hi m4=> ?_⟩
 ·have:=Aa (id,some .gone) (uo++uf) Vb [] H0
  simp only[cJ]at this
  rw[kF,this]
  by_cases bY:i=id
  ·subst bY;rw[ax,ax]
  ·rw[az _ _ bY,az _ _ bY];exact h.ext i hi
 ·have:=Aa (id,some .gone) uo ahc [] H0
  simp only[cJ]at this
  rw[this]
  by_cases bY:i=id
  ·subst bY;rw[ax,ax]
  ·rw[az _ _ bY,az _ _ bY];exact h.VK i hi
 ·obtain⟨h1,h2,h3⟩:=h.Tc q nN
  have jy:q.1≠id:=λe=>vf (e▸eL nN)
  exact⟨by rw[az _ _ jy];exact h1,by rw[az _ _ jy];exact h2,h3⟩
 ·by_cases bY:i=id
  ·subst bY;rw[ax];intro h';cases h'
  ·rw[az _ _ bY]
   exact h.ks i (((lq i).1 hi).resolve_left bY) e' l'
 ·rcases(lq i).1 hi with rfl|hi
  ·exact⟨vf,e,l,h0⟩
  ·exact h.ksn i hi
 ·by_cases bY:i=id
  ·subst bY;left;rw[ax,ax]
  ·rw[az _ _ bY,az _ _ bY];exact h.fz i
 ·rcases aW.1 hu with rfl|hu
  ·rfl
  ·exact h.uov u hu
 ·refine pU.2 ⟨h.nd,?_,λx hx y hy=> ?_⟩
  ·cases fL (ν id)<;>simp
  ·rw[fg]at hy
   intro YZ;subst YZ
   exact zX x hy hx
 ·rcases a8.1 hb with hb|hb
  ·exact h.hM b hb
  ·rw[fg]at hb
   exact(h.mem.kZ id _ bf).xV trivial hb
 ·rcases a8.1 hb with hb|hb
  ·exact h.MF b hb
  ·rw[fg]at hb
   exact h.mem.new id _ b bf trivial hb
 ·by_cases bY:i=id
  ·subst bY;rw[ax]at hi;cases hi;simp[bg.mut]at hm
  ·rw[az _ _ bY]at hi
   rcases a8.1 hb with hb|hb
   ·exact h.none b hb i e' hi hm
   ·rw[fg]at hb
    intro eY
    exact h.ME.zQ i id e' _ b bY hi hm hq trivial eY hb
 ·rcases a8.1 hb with hb|hb
  ·exact h.iob b hb YY
  ·rw[fg]at hb
   exact absurd YY (h.mem.yD id e l b bf hb)
 ·have jy:i≠id:=λe=>hi ((lq i).2 (.inl e))
  rw[az _ _ jy]
  exact h.same i (λh'=>hi ((lq i).2 (.inr h'))) m4
theorem jI.ahd{H0 H1 Hq:Nat→Option bg}{M1:Nat→Prop}{uo uf:iX}{io:List (Nat×AM)}{hs:List Nat}(h:jI c w M ν H0 H1 Hq M1 uo uf io hs){id:Nat}{τ:Ty}{x:τ.den}(bf:H1 id=some (.obj τ x)):
  jI c w M ν H0 (bZ H1 id (some .gone)) (bZ Hq id (some .gone)) M1 uo uf (io++[(id,.io τ)]) (hs++(fL (ν id)).toList):=by
 have vf:id∉keys io:=λhk=>by
  obtain⟨q,hq,rfl⟩:=cA.1 hk
  have:=(h.Tc q hq).1
  rw[bf]at this;cases this
 have hq:Hq id=some (.obj τ x):=h.fz.alL bf
 have Vb:id∉keys (uo++uf):=λhk=>by
  have h1:=h.ext id vf
  obtain⟨_,e,l,h0⟩:=h.ksn id hk
  have key: ∀(ups:iX) (H:Nat→Option bg),(∀u∈ups,u.2=some .gone∨ ∃e l,u.2=some (.oH e l))→id∈keys ups→c4 H ups id=some .gone∨ ∃e l,c4 H ups id=some (.oH e l):=by
   intro ups
   induction ups with
   |nil=>intro H _ hk;simp[keys]at hk
   |cons u ups ih=>
    intro H hv hk
    by_cases Y0:id∈keys ups
    ·exact ih _ (λv VA=>hv v (aZ _ VA)) Y0
    ·show c4 (bZ H u.1 u.2) ups id=_∨ ∃e l,c4 (bZ H u.1 u.2) ups id=_
     rw[ly Y0]
     have hui:id=u.1:=by
      simp only[keys,bX,aW]at hk Y0
      exact hk.resolve_right Y0
     rw[hui,ax]
     exact hv u bm
  have:=key (uo++uf) H0 (λu hu=>by
   rcases a8.1 hu with hu|hu
   ·exact .inl (h.uov u hu)
   ·obtain⟨e,l,h',_⟩:=h.ufv u hu;exact .inr ⟨e,l,h'⟩) hk
  rw[h1,bf]at this
  rcases this with h'|⟨_,_,h'⟩<;>cases h'
 have h0:H0 id=some (.obj τ x):=by rw[←h.same id Vb vf];exact bf
 have lq: ∀i,i∈keys (io++[(id,.io τ)])↔i∈keys io∨i=id:=by
  intro i
  simp only[keys,cY,bX,ja,a8,aW,List.not_mem_nil,or_false]
 have zX: ∀b,fL (ν id)=some b→b∉hs:=λb hb eY=>h.none b eY id _ hq trivial hb
 refine⟨(Tr.gone h.mem id).mem,(Tr.gone h.ME id).mem,h.ca,λi hi=> ?_,λi hi=> ?_,λq nN=> ?_,?_,λi hi e' l'=> ?_,λi hi=> ?_,λi=> ?_,h.uov,h.ufv,?_,λb hb=> ?_,λb hb=> ?_,λb hb i e' hi hm=> ?_,λb hb YY=> ?_,λi hi m4=> ?_⟩
 ·rw[az _ _ (λe=>hi ((lq i).2 (.inr e)))];exact h.ext i (λh'=>hi ((lq i).2 (.inl h')))
 ·rw[az _ _ (λe=>hi ((lq i).2 (.inr e)))];exact h.VK i (λh'=>hi ((lq i).2 (.inl h')))
 ·rcases a8.1 nN with nN|nN
  ·obtain⟨h1,h2,h3⟩:=h.Tc q nN
   have jy:q.1≠id:=λe=>vf (e▸eL nN)
   exact⟨by rw[az _ _ jy];exact h1,by rw[az _ _ jy];exact h2,h3⟩
  ·rw[bW]at nN;subst nN
   exact⟨ax _ _ _,ax _ _ _,.inl ⟨τ,x,rfl,h0⟩⟩
 ·simp only[keys,cY,bX,ja]
  refine pU.2 ⟨h.ion,by simp,λx hx y hy=> ?_⟩
  rw[bW]at hy;subst hy
  intro e;exact vf (e▸hx)
 ·by_cases bY:i=id
  ·subst bY;rw[ax];intro h';cases h'
  ·rw[az _ _ bY];exact h.ks i hi e' l'
 ·obtain⟨h1,h2⟩:=h.ksn i hi
  exact⟨λh'=>((lq i).1 h').elim h1 (λe=>Vb (e▸hi)),h2⟩
 ·by_cases bY:i=id
  ·subst bY;left;rw[ax,ax]
  ·rw[az _ _ bY,az _ _ bY];exact h.fz i
 ·refine pU.2 ⟨h.nd,?_,λx hx y hy=> ?_⟩
  ·cases fL (ν id)<;>simp
  ·rw[fg]at hy
   intro YZ;subst YZ
   exact zX x hy hx
 ·rcases a8.1 hb with hb|hb
  ·exact h.hM b hb
  ·rw[fg]at hb
   exact(h.mem.kZ id _ bf).xV trivial hb
 ·rcases a8.1 hb with hb|hb
  ·exact h.MF b hb
  ·rw[fg]at hb
   exact h.mem.new id _ b bf trivial hb
 ·by_cases bY:i=id
  ·subst bY;rw[ax]at hi;cases hi;simp[bg.mut]at hm
  ·rw[az _ _ bY]at hi
   rcases a8.1 hb with hb|hb
   ·exact h.none b hb i e' hi hm
   ·rw[fg]at hb
    intro eY
    exact h.ME.zQ i id e' _ b bY hi hm hq trivial eY hb
 ·rcases a8.1 hb with hb|hb
  ·obtain⟨q,hq1,YU⟩:=h.iob b hb YY
   exact⟨q,cU _ hq1,YU⟩
  ·rw[fg]at hb
   exact⟨(id,.io τ),by simp,hb⟩
 ·have jy:i≠id:=λe=>m4 ((lq i).2 (.inr e))
  rw[az _ _ jy]
  exact h.same i hi (λh'=>m4 ((lq i).2 (.inl h')))
theorem jI.afQ{H0 H1 Hq:Nat→Option bg}{M1:Nat→Prop}{uo uf:iX}{io:List (Nat×AM)}{hs:List Nat}(h:jI c w M ν H0 H1 Hq M1 uo uf io hs){id:Nat}{e:Ty}{l:List e.den}(bf:H1 id=some (.own e l)):
  jI c w M ν H0 (bZ H1 id (some .gone)) (bZ Hq id (some .gone)) M1 uo uf (io++[(id,.lo e)]) (hs++(fL (ν id)).toList):=by
 have vf:id∉keys io:=λhk=>by
  obtain⟨q,hq,rfl⟩:=cA.1 hk
  have:=(h.Tc q hq).1
  rw[bf]at this;cases this
 have hq:Hq id=some (.own e l):=h.fz.Zw bf
 have Vb:id∉keys (uo++uf):=λhk=>h.ks id hk e l bf
 have h0:H0 id=some (.own e l):=by rw[←h.same id Vb vf];exact bf
 have lq: ∀i,i∈keys (io++[(id,.lo e)])↔i∈keys io∨i=id:=by
  intro i
  simp only[keys,cY,bX,ja,a8,aW,List.not_mem_nil,or_false]
 have zX: ∀b,fL (ν id)=some b→b∉hs:=λb hb eY=>h.none b eY id _ hq trivial hb
 refine⟨(Tr.gone h.mem id).mem,(Tr.gone h.ME id).mem,h.ca,λi hi=> ?_,λi hi=> ?_,λq nN=> ?_,?_,λi hi e' l'=> ?_,λi hi=> ?_,λi=> ?_,h.uov,h.ufv,?_,λb hb=> ?_,λb hb=> ?_,λb hb i e' hi hm=> ?_,λb hb YY=> ?_,λi hi m4=> ?_⟩
 ·rw[az _ _ (λe=>hi ((lq i).2 (.inr e)))];exact h.ext i (λh'=>hi ((lq i).2 (.inl h')))
 ·rw[az _ _ (λe=>hi ((lq i).2 (.inr e)))];exact h.VK i (λh'=>hi ((lq i).2 (.inl h')))
 ·rcases a8.1 nN with nN|nN
  ·obtain⟨h1,h2,h3⟩:=h.Tc q nN
   have jy:q.1≠id:=λe=>vf (e▸eL nN)
   exact⟨by rw[az _ _ jy];exact h1,by rw[az _ _ jy];exact h2,h3⟩
  ·rw[bW]at nN;subst nN
   exact⟨ax _ _ _,ax _ _ _,.inr ⟨e,l,rfl,h0⟩⟩
 ·simp only[keys,cY,bX,ja]
  refine pU.2 ⟨h.ion,by simp,λx hx y hy=> ?_⟩
  rw[bW]at hy;subst hy
  intro e;exact vf (e▸hx)
 ·by_cases bY:i=id
  ·subst bY;rw[ax];intro h';cases h'
  ·rw[az _ _ bY];exact h.ks i hi e' l'
 ·obtain⟨h1,h2⟩:=h.ksn i hi
  exact⟨λh'=>((lq i).1 h').elim h1 (λe=>Vb (e▸hi)),h2⟩
 ·by_cases bY:i=id
  ·subst bY;left;rw[ax,ax]
  ·rw[az _ _ bY,az _ _ bY];exact h.fz i
 ·refine pU.2 ⟨h.nd,?_,λx hx y hy=> ?_⟩
  ·cases fL (ν id)<;>simp
  ·rw[fg]at hy
   intro YZ;subst YZ
   exact zX x hy hx
 ·rcases a8.1 hb with hb|hb
  ·exact h.hM b hb
  ·rw[fg]at hb
   exact(h.mem.kZ id _ bf).xV trivial hb
 ·rcases a8.1 hb with hb|hb
  ·exact h.MF b hb
  ·rw[fg]at hb
   exact h.mem.new id _ b bf trivial hb
 ·by_cases bY:i=id
  ·subst bY;rw[ax]at hi;cases hi;simp[bg.mut]at hm
  ·rw[az _ _ bY]at hi
   rcases a8.1 hb with hb|hb
   ·exact h.none b hb i e' hi hm
   ·rw[fg]at hb
    intro eY
    exact h.ME.zQ i id e' _ b bY hi hm hq trivial eY hb
 ·rcases a8.1 hb with hb|hb
  ·obtain⟨q,hq1,YU⟩:=h.iob b hb YY
   exact⟨q,cU _ hq1,YU⟩
  ·rw[fg]at hb
   exact⟨(id,.lo e),by simp,hb⟩
 ·have jy:i≠id:=λe=>m4 ((lq i).2 (.inr e))
  rw[az _ _ jy]
  exact h.same i hi (λh'=>m4 ((lq i).2 (.inl h')))
end VM
end
section
namespace VM
open Go
variable{P:Program}{E:Env}{o:Oper}{a:Act}{w:World}{M:Nat→Prop}{ν:Nat→Value}{σ:St}{c:Ctx}{α:Type}{r:α}{next:Act→World→Prop}{Q:Exit→Act→World→Prop}
theorem sR.Zx{H:Nat→Option bg}{id:Nat}{e e':bg}(bf:H id=some e)(hl:e.ll e'):sR H ν (bZ H id (some e')) ν:=
 ⟨λi e1 hi=>by
  by_cases bY:i=id
  ·subst bY;rw[bf]at hi;cases hi;exact⟨e',ax _ _ _,hl⟩
  ·exact⟨e1,by rw[az _ _ bY];exact hi,.refl e1⟩,λ_ _=>rfl⟩
theorem bg.kK(e:bg):e.ll .gone:=by cases e<;>simp[bg.ll]
theorem VR.alN{H H':Nat→Option bg}{ν':Nat→Value}{a:Ty}{x:a.den}{v:Value}(h:VR w M H ν (Ch a x) v):VR w M H' ν' (Ch a x) v:=by
 unfold Ch at h ⊢
 split at h
 ·simp only[VR]at h ⊢;exact h
 ·simp only[VR]at h ⊢;exact h
theorem jq.free{H H':Nat→Option bg}{ν':Nat→Value}: ∀{τ:Ty} {x:τ.den} {vs:List Value},jq w M H ν (pM τ x) vs→jq w M H' ν' (pM τ x) vs
 | .pair a b,x,v::vs,h=>by
  simp only[pM,jq]at h ⊢
  exact⟨VR.alN h.1,jq.free h.2⟩
 | .pair a b,x,[],h=>by simp[pM,jq]at h
 | .int _,_,[],_| .bool,_,[],_| .str,_,[],_| .slice _,_,[],_| .unit,_,[],_| .arr _ _,_,[],_=>by simp[pM,jq]
 | .int _,_,_::_,h| .bool,_,_::_,h| .str,_,_::_,h| .slice _,_,_::_,h| .unit,_,_::_,h| .arr _ _,_,_::_,h=>by simp[pM,jq]at h
theorem Ct{H0 H1 Hq:Nat→Option bg}{M1:Nat→Prop}{uo uf:iX}{io:List (Nat×AM)}{hs:List Nat}(h:jI c w M ν H0 H1 Hq M1 uo uf io hs){m:AM}{x:bD}{v:Value}(hv:VR w M1 H1 ν x v)
  {k:m.den→(Nat→Option bg)→List Nat→iX→iX→List (Nat×AM)→Option α} (hk:nU m x H1 k=some r):
  ∃y H2 rd Lu Lv GZ Vc M2,k y H2 rd Lu Lv GZ=some r∧jI c w M ν H0 H2 Vc M2 (Lu++uo) (Lv++uf) (io++GZ) (hs++c9 m v)∧e8 w M1 w M2∧sR H1 ν H2 ν∧A1 w M2 m y v∧
   GZ.map (λq=>ν q.1)=(if m.iE then [v]else [])∧GZ.map (·.2)=m8 [m]:=by
 unfold nU at hk
 split at hk
 ·
  rename_i τ k
  obtain⟨y,rd,ups,hk,hy⟩:=DU h.mem hv hk
  rcases hy with⟨rfl,hV⟩|⟨id,e,l,rfl,bf,hV⟩
  ·exact⟨y,H1,rd,[],[],[],Hq,M1,hk,by simpa [c9]using h,.refl w M1,.refl H1 ν,hV,rfl,rfl⟩
  ·obtain⟨M2,hA,hK,JW⟩:=h.freeze bf
   exact⟨y,_,rd,[],_,[],Hq,M2,hk,by simpa [c9]using hA,hK,.Zx bf ⟨rfl,rfl⟩,hV M2 JW,rfl,rfl⟩
 ·
  rename_i e k
  split at hk
  ·obtain⟨ad,hv⟩:=VR.emp.1 hv
   subst hv
   have hb:fL (.slice ad 0 0)=none:=by cases ad<;>simp[fL]
   exact⟨[],H1,[],[],[],[],Hq,M1,hk,by simpa [c9,hb]using h,.refl w M1,.refl H1 ν,by simp only[A1,ER];exact .inl ⟨trivial,ad,rfl⟩,rfl,rfl⟩
  ·rename_i id
   split at hk
   ·rename_i e' l bf
    obtain⟨e1,hk⟩:=bC hk
    cases e1
    simp only[VR]at hv
    obtain⟨_,rfl⟩:=hv
    refine⟨_,_,_,_,_,_,_,M1,hk,by simpa [c9]using h.hand bf,.refl w M1,.Zx bf (bg.kK _),?_,rfl,rfl⟩
    have:=h.mem.kZ id _ bf
    exact this
   ·cases hk
  ·cases hk
 ·
  rename_i τ k
  split at hk
  ·rename_i id
   split at hk
   ·rename_i υ z bf
    obtain⟨e1,hk⟩:=bC hk
    subst e1
    simp only[VR]at hv
    obtain⟨e,he,nM⟩:=hv
    rw[bf]at he;cases he
    simp only[AR]at nM
    obtain⟨_,b,hb,hv⟩:=nM
    have VL:v=ν id:=by rw[hv,hb];rfl
    subst VL
    refine⟨_,_,_,_,_,_,_,M1,hk,by simpa [c9]using h.ahd bf,.refl w M1,.Zx bf (bg.kK _),?_,rfl,rfl⟩
    have:=h.mem.kZ id _ bf
    exact this
   ·cases hk
  ·cases hk
 ·
  rename_i f τ k
  split at hk
  ·rename_i f' cs
   obtain⟨hf,hk1⟩:=cy hk
   clear hk
   have hf:=fW hf
   subst hf
   have hk:=hk1
   clear hk1
   simp only[VR]at hv
   obtain⟨us,rfl,Zn⟩:=hv
   obtain⟨y,rd,ups,hk,hy⟩:=EW h.mem Zn hk
   split at hk
   ·exact⟨y,H1,rd,[],[],[],Hq,M1,hk,by simpa [c9]using h,.refl w M1,.refl H1 ν,by simp only[A1,VR];exact⟨us,rfl,hy rfl⟩,rfl,rfl⟩
   ·cases hk
  ·cases hk
 ·cases hk
 ·
  rename_i τ k
  split at hk
  ·rename_i υ z
   obtain⟨e1,hk⟩:=bC hk
   subst e1
   exact⟨_,H1,_,[],[],[],Hq,M1,hk,by simpa [c9]using h,.refl w M1,.refl H1 ν,by simp only[A1,VR]at hv ⊢;exact hv,rfl,rfl⟩
  ·cases hk
 ·
  rename_i e k
  split at hk
  ·rename_i id
   split at hk
   ·rename_i e' l bf
    obtain⟨e1,hk⟩:=bC hk
    cases e1
    simp only[VR]at hv
    obtain⟨_,rfl⟩:=hv
    refine⟨_,_,_,_,_,_,_,M1,hk,by simpa [c9]using h.afQ bf,.refl w M1,.Zx bf (bg.kK _),?_,rfl,rfl⟩
    have:=h.mem.kZ id _ bf
    exact this
   ·cases hk
  ·cases hk
theorem Cu{H0:Nat→Option bg}: ∀{ms:List AM} {pW:List bD} {vs:List Value} {H1 Hq:Nat→Option bg} {M1:Nat→Prop} {rd:List Nat} {uo uf:iX} {io:List (Nat×AM)} {hs:List Nat} {K:HP ms→List Nat→iX→iX→List (Nat×AM)→Option α},
  jI c w M ν H0 H1 Hq M1 uo uf io hs→jq w M1 H1 ν pW vs→th ms pW H1 rd uo uf io K=some r→
  ∃x Bj Lu Lv GZ H2 Vc M2,K x Bj Lu Lv GZ=some r∧jI c w M ν H0 H2 Vc M2 Lu Lv GZ (hs++dO ms vs)∧e8 w M1 w M2∧jH w M2 ms x vs∧
   GZ.map (λq=>ν q.1)=io.map (λq=>ν q.1)++fm ms vs∧GZ.map (·.2)=io.map (·.2)++m8 ms
 |[],[],[],H1,Hq,M1,rd,uo,uf,io,hs,K,h,_,hk=>
  ⟨(),rd,uo,uf,io,H1,Hq,M1,hk,by simpa [dO]using h,.refl w M1,rfl,by simp[fm],by simp[m8]⟩
 |[m],[x],[v],H1,Hq,M1,rd,uo,uf,io,hs,K,h,hv,hk=>by
  simp only[jq,eS]at hv
  obtain⟨y,H2,rd1,uo1,uf1,io1,Vc,M2,hk,hA,hK,hG,hy,Zy,Vd⟩:=Ct h hv (hk:nU m x H1 _=some r)
  refine⟨y,_,_,_,_,H2,Vc,M2,hk,by simpa [dO]using hA,hK,⟨v,[],rfl,hy,rfl⟩,?_,?_⟩
  ·rw[cY,Zy];cases vf:m.iE<;>simp[fm,vf]
  ·rw[cY,Vd]
 |m::n::ms,x::xs,v::vs,H1,Hq,M1,rd,uo,uf,io,hs,K,h,hv,hk=>by
  simp only[jq]at hv
  obtain⟨y,H2,rd1,uo1,uf1,io1,Vc,M2,hk,hA,hK,hG,hy,Zy,Vd⟩:=Ct h hv.1 (hk:nU m x H1 _=some r)
  obtain⟨ys,Bj,Lu,Lv,GZ,H3,Hq3,M3,hk,hA',hK',hys,hi3,hi4⟩:=Cu (ms:=n::ms) hA (jq.ca hK hG hv.2) hk
  refine⟨(y,ys),_,_,_,_,H3,Hq3,M3,hk,by simpa [dO,bt]using hA',hK.trans hK',⟨v,vs,rfl,?_,hys⟩,?_,?_⟩
  ·refine A1.wu hK' (λb hb=>⟨rfl,hA'.hM b ?_⟩) hy
   exact cU _ (dA _ hb)
  ·rw[hi3,cY,Zy,bt]
   congr 1
   cases vf:m.iE<;>simp[fm,vf]
  ·rw[hi4,cY,Vd,bt]
   congr 1
   cases m<;>simp[m8]
 |[],_::_,_,_,_,_,_,_,_,_,_,_,_,_,hk=>by simp[th]at hk
 |[_],[],_,_,_,_,_,_,_,_,_,_,_,_,hk=>by simp[th]at hk
 |[_],_::_::_,_,_,_,_,_,_,_,_,_,_,_,_,hk=>by simp[th]at hk
 |_::_::_,[],_,_,_,_,_,_,_,_,_,_,_,_,hk=>by simp[th]at hk
 |_,_::_,[],_,_,_,_,_,_,_,_,_,_,hv,_=>by simp[jq]at hv
 |[],[],_::_,_,_,_,_,_,_,_,_,_,_,hv,_=>by simp[jq]at hv
 |[_],[_],_::_::_,_,_,_,_,_,_,_,_,_,_,hv,_=>by simp[jq]at hv
end VM
end
