/- A part of the proof of AwardPays of layer 25: a machine that reads a function of the program as an equation between values. -/
import Derived.Test.YtocmlaipoebfeaaGreatVm2
import Derived.Great.FillDense
set_option linter.all false
section
namespace VM
open Go
variable{P:Program}{E:Env}{o:Oper}{a:Act}{w:World}{M:Nat→Prop}{ν:Nat→Value}{σ:St}{c:Ctx}{α:Type}{r:α}{next:Act→World→Prop}{Q:Exit→Act→World→Prop}
theorem Ny(off:Nat)(new:Array Value)(cs:Array Value)(h:off+new.size≤cs.size):
  (new.zipIdx.foldl (fun cs (x:Value×Nat)=>cs.setIfInBounds (off+x.2) x.1) cs)=(di cs.toList off new.toList).toArray:=by
 have h1:new.zipIdx.foldl (fun cs (x:Value×Nat)=>cs.setIfInBounds (off+x.2) x.1) cs=(new.toList.zipIdx 0).foldl (fun cs (x:Value×Nat)=>cs.setIfInBounds (off+x.2) x.1) cs:=by
  rw[←Array.foldl_toList,Array.toList_zipIdx]
 rw[h1]
 obtain⟨hs,hk⟩:=Great.foldl_set off new.toList 0 cs
 apply Array.ext_getElem?
 intro k
 rw[hk k,←auo (xs:=cs)]
 have hl:new.toList.length=new.size:=atO
 have hc:cs.toList.length=cs.size:=atO
 unfold di
 rw[aw1]
 by_cases h2:k<off
 ·rw[atL (by omega),atV,auR (by rw[at4];omega),List.getElem?_take_of_lt h2]
 ·by_cases h3:k<off+new.size
  ·rw[atK (by omega),auR (by rw[atJ,at4];omega),auI (by rw[at4];omega),at4]
   congr 1
   omega
  ·rw[atL (by omega),auI (by rw[atJ,at4];omega),atJ,at4,auO]
   congr 1
   omega
theorem Bv{place:Nat→Option (Nat×Nat)}{cs:Array Value}{i:Nat}{v:Value}{rest:List (Nat×Value)}{off s:Nat}(hp:place i=some (off,s))(hs:v.cells.size=s)(h:off+s≤cs.size):
  Instr.fill place cs ((i,v)::rest)=Instr.fill place (di cs.toList off v.cells.toList).toArray rest:=by
 have h1: ¬(decide (v.cells.size≠s)||decide (off+v.cells.size>cs.size))=true:=by simp[hs];omega
 conv=>lhs;unfold Instr.fill
 rw[hp]
 simp only
 rw[atL h1]
 congr 1
 exact Ny off v.cells cs (by omega)
theorem pE(a:Act)(ps:Array (Nat×Operand)):(ps.map fun(i,x)=>(i,a.eval x)).toList=ps.toList.map fun p=>(p.1,a.eval p.2):=by
 rw[Array.toList_map]
def PR(w:World)(M:Nat→Prop)(H:Nat→Option aR)(ν:Nat→Value):List (Nat×aW)→List (Nat×Value)→Prop
 |[],[]=>True
 |p::ps,q::qs=>p.1=q.1∧VR w M H ν p.2 q.2∧PR w M H ν ps qs
 |_,_=>False
theorem PR.bp{w':World}{M':Nat→Prop}{H H':Nat→Option aR}{ν':Nat→Value}(k:dh w M w' M')(g:oJ H ν H' ν'): ∀{ps:List (Nat×aW)} {qs:List (Nat×Value)},PR w M H ν ps qs→PR w' M' H' ν' ps qs
 |[],[],_=>trivial
 |_::_,_::_,h=>⟨h.1,h.2.1.bp k g,PR.bp k g h.2.2⟩
 |[],_::_,h=>h.elim
 |_::_,[],h=>h.elim
theorem Core.pr(hc:Core c σ a.tmps w M ν): ∀ps:List (Nat×Operand),PR w M σ.H ν (ps.map fun p=>(p.1,σ.ρ p.2)) (ps.map fun p=>(p.1,a.eval p.2))
 |[]=>trivial
 |p::ps=>⟨rfl,hc.ev p.2,hc.pr ps⟩
theorem wE{e:Ty}{n:Nat}{H:Nat→Option aR}: ∀(ps:List (Nat×aW)) (qs:List (Nat×Value)) (H1:Nat→Option aR) (M:Nat→Prop) (l:List e.den) (cs:Array Value) (rd:List Nat) (ups:fD) (K:List e.den→List Nat→fD→Option α),
  Fz H H1→Mem c H1 w M ν→PR w M H1 ν ps qs→l.length=n→cs.size=n*e.size→mR w M e cs.toList l→H1=bU H ups→qW e H n ps l rd ups K=some r→
  ∃l' vA jZ M' cs',K l' vA jZ=some r∧Tr c H1 w M ν (bU H jZ) w M' ν∧Fz H (bU H jZ)∧l'.length=n∧cs'.size=n*e.size∧mR w M' e cs'.toList l'∧
   Instr.fill (fun i=>some (i*e.size,e.size)) cs qs=some cs':=by
 intro ps
 induction ps with
 |nil=>
  intro qs H1 M l cs rd ups K hz hm hp hl hs hr hH h
  cases qs with
  |cons _ _=>exact hp.elim
  |nil=>exact⟨l,rd,ups,M,cs,h,hH▸Tr.refl hm,hH▸hz,hl,hs,hr,rfl⟩
 |cons p ps ih=>
  intro qs H1 M l cs rd ups K hz hm hp hl hs hr hH h
  cases qs with
  |nil=>exact hp.elim
  |cons q qs=>
   obtain⟨h1,h2,h3⟩:=hp
   unfold qW at h
   obtain⟨hb,h⟩:=bB h
   have dZ:p.1<n:=by simpa [axa]using hb
   obtain⟨y,YG,Ie,M1,h,eY,hV,yb,_⟩:=j2 hz hm h2 h
   have hlen:(q.2.cells).size=e.size:=by rw[←atO];exact hV.cells.length
   have hmul:=cR (s:=e.size) dZ
   have sH:=mR.set (hr.bp eY.bp) (by rw[hl,atO,hs];exact atP _) (i:=p.1) (by omega) hV.cells
   obtain⟨l',vA,jZ,M',cs',hK,YH,AE,DV,JP,dU,hf⟩:=ih qs (bU H1 Ie) M1 (l.set p.1 y) (di cs.toList (p.1*e.size) q.2.cells.toList).toArray (YG++rd) (ups++Ie) K yb eY.mem (h3.bp eY.bp eY.goes)
    (by rw[atX];exact hl) (by rw[auG,et (by rw[atO,atO];omega),atO,hs]) sH (by rw[ei,hH]) h
   refine⟨l',vA,jZ,M',cs',hK,eY.trans YH,AE,DV,JP,dU,?_⟩
   rw[Bv (off:=p.1*e.size) (s:=e.size) (by rw[h1]) hlen (by omega)]
   exact hf
theorem CG{τ:Ty}{H:Nat→Option aR}{place:Nat→Option (Nat×Nat)}(YI: ∀(x:τ.den) n υ y o,xm τ x n υ y o→place n=some (o,υ.size)):
  ∀(ps:List (Nat×aW)) (qs:List (Nat×Value)) (H1:Nat→Option aR) (M:Nat→Prop) (x:τ.den) (cs:Array Value) (rd:List Nat) (ups:fD) (K:τ.den→List Nat→fD→Option α),
  Fz H H1→Mem c H1 w M ν→PR w M H1 ν ps qs→Rd w M τ cs.toList x→H1=bU H ups→pA τ H ps x rd ups K=some r→
  ∃x' vA jZ M' cs',K x' vA jZ=some r∧Tr c H1 w M ν (bU H jZ) w M' ν∧Fz H (bU H jZ)∧Rd w M' τ cs'.toList x'∧Instr.fill place cs qs=some cs'∧
   ∀m υ,Cq τ m=some υ→(ps.all fun p=> !(Nat.beq p.1 m))=true→(cs'.toList.drop (nF τ m)).take υ.size=(cs.toList.drop (nF τ m)).take υ.size:=by
 intro ps
 induction ps with
 |nil=>
  intro qs H1 M x cs rd ups K hz hm hp hr hH h
  cases qs with
  |cons _ _=>exact hp.elim
  |nil=>exact⟨x,rd,ups,M,cs,h,hH▸Tr.refl hm,hH▸hz,hr,rfl,fun _ _ _ _=>rfl⟩
 |cons p ps ih=>
  intro qs H1 M x cs rd ups K hz hm hp hr hH h
  cases qs with
  |nil=>exact hp.elim
  |cons q qs=>
   obtain⟨h1,h2,h3⟩:=hp
   unfold pA at h
   obtain⟨υ,y0,of,hf,h⟩:=o3 h
   obtain⟨y,YG,Ie,M1,h,eY,hV,yb,_⟩:=j2 hz hm h2 h
   obtain⟨υ',y',o',k',xn,gP,AT⟩:=nZ h
   obtain⟨rfl,rfl⟩:=xn.eq
   obtain⟨rfl,rfl⟩:=hf.eq
   obtain⟨e1,Ey⟩:=aY gP
   obtain⟨x',o9,_,g4⟩:=AT _ _ Ey
   have hlen:(q.2.cells).size=(qK τ p.1).size:=by rw[←atO];exact hV.cells.length
   have hb:=hf.bound
   have DX:=hr.length
   rw[atO]at DX
   obtain⟨x2,vA,jZ,M',cs',hK,YH,AE,dU,Nr,Ig⟩:=ih qs (bU H1 Ie) M1 x' (di cs.toList (nF τ p.1) q.2.cells.toList).toArray (YG++rd) (ups++Ie) K yb eY.mem (h3.bp eY.bp eY.goes)
    (g4 w M1 _ _ (hr.bp eY.bp) hV.cells) (by rw[ei,hH]) o9
   refine⟨x2,vA,jZ,M',cs',hK,eY.trans YH,AE,dU,?_,fun m υ gP jw=> ?_⟩
   ·rw[Bv (off:=nF τ p.1) (s:=(qK τ p.1).size) (by rw[←h1];exact YI _ _ _ _ _ hf) hlen (by omega)]
    exact Nr
   ·rw[aw8,atW]at jw
    rw[Ig m υ gP jw.2]
    obtain⟨y2,o2,hf2⟩:=o4 gP x
    obtain⟨e3,e4⟩:=hf2.eq
    subst e3 e4
    have ib:p.1≠m:=fun e=>by have:=jw.1;rw[e,awm]at this;cases this
    have hap:=hf.apart hf2 ib
    have th:=hf2.bound
    show((di cs.toList (nF τ p.1) q.2.cells.toList).drop _).take _=_
    rw[Cx (by rw[atO];omega) (by rw[atO,atO];omega)]
theorem dH.places: ∀(τ:Ty) (fs:Array Field) (n off:Nat),dH P τ (.inr (fs,n,off))→
  ∃ps,(fs.toList.drop n).mapM (fun f=>(P.info? f.type).map fun i=>(f.offset,i.size))=some ps∧ ∀(x:τ.den) m υ y o,xm τ x m υ y o→ps[m]? =some (off+o,υ.size)
 | .unit,fs,n,off,h=>by
  simp only[dH]at h
  refine⟨[],?_,fun x m υ y o hf=>by cases hf⟩
  rw[auw (by rw[atO];omega)];rfl
 | .pair t b,fs,n,off,h=>by
  simp only[dH]at h
  obtain⟨f,hf,ho,ha,hb⟩:=h
  obtain⟨ps,HH,Nr⟩:=dH.places b fs (n+1) (off+t.size) hb
  obtain⟨i,hi,hs,_⟩:=(show gM P t f.type from ha).base
  have dZ:n<fs.toList.length:=by rw[atO];exact(aup.1 hf).1
  have hfe:fs.toList[n]=f:=by rw[avV];exact(aup.1 hf).2
  refine⟨(off,t.size)::ps,?_,fun x m υ y o xn=> ?_⟩
  ·rw[auS dZ,awz,HH,hfe,hi]
   simp[ho,hs]
  ·cases xn with
   |here=>simp
   |there _ h'=>simp[Nr _ _ _ _ _ h',avA]
 | .int _,_,_,_,h| .bool,_,_,_,h| .str,_,_,_,h| .slice _,_,_,_,h| .arr _ _,_,_,_,h=>by simp[dH]at h
theorem gM.places{τ:Ty}{t:TypeId}(h:gM P τ t)(ha:τ.isAgg=true)(hn: ∀n e,τ≠ .arr n e):
  ∃fs ps,P.underlying t=some (.struct fs)∧fs.toList.mapM (fun f=>(P.info? f.type).map fun i=>(f.offset,i.size))=some ps∧ ∀(x:τ.den) m υ y o,xm τ x m υ y o→ps[m]? =some (o,υ.size):=by
 cases τ with
 |unit=>
  simp only[gM,dH]at h
  obtain⟨_,fs,hu,hs⟩:=h
  refine⟨fs,[],hu,?_,fun x m υ y o hf=>by cases hf⟩
  have:fs.toList=[]:=auQ (by rw[atO];exact hs)
  rw[this];rfl
 |pair t' b=>
  simp only[gM,dH]at h
  obtain⟨_,fs,f,hu,hf,ho,ha',hb⟩:=h
  have hg:dH P (.pair t' b) (.inr (fs,0,0)):=by
   simp only[dH]
   exact⟨f,hf,ho,ha',by simpa using hb⟩
  obtain⟨ps,HH,Nr⟩:=dH.places _ fs 0 0 hg
  exact⟨fs,ps,hu,HH,fun x m υ y o xn=>by simpa using Nr x m υ y o xn⟩
 |arr n e=>exact absurd rfl (hn n e)
 |int _=>simp[Ty.isAgg]at ha
 |bool=>simp[Ty.isAgg]at ha
 |str=>simp[Ty.isAgg]at ha
 |slice _=>simp[Ty.isAgg]at ha
theorem uA{ρ:Operand→Value}{t:TypeId}{ps:Array (Nat×Operand)}(ho:o.op= .build t ps){v:Value}(h:(Instr.build t (ps.map fun(i,x)=>(i,ρ x))).run P w= .ok v w):(execOp ρ o).run P w= .ok (.value v) w:=by
 simp[execOp,ho,h]
theorem uB{ρ:Operand→Value}{t:TypeId}{n:Nat}{ps:Array (Nat×Operand)}(ho:o.op= .buildSlice t n ps){v:Value}{w':World}(h:(Instr.buildSlice t n (ps.map fun(i,x)=>(i,ρ x))).run P w= .ok v w'):(execOp ρ o).run P w= .ok (.value v) w':=by
 simp[execOp,ho,h]
theorem VR.JQ{H:Nat→Option aR}{τ:Ty}(ha:τ.isAgg=true){cs:Array Value}{x:τ.den}(h:Rd w M τ cs.toList x):VR w M H ν (.val τ x) (.agg cs):=by
 simp only[VR,V];rw[atK ha];exact⟨cs,rfl,h⟩
theorem CH(hE:EnvTy P E)(hc:Core c σ a.tmps w M ν){t:TypeId}{ps:Array (Nat×Operand)}(ho:o.op= .build t ps){K:fE α}{n:Nat}{e:Ty}(ht:E.ty t=some (.arr n e))
  (h:qW e σ.H n (partsOf σ.ρ ps) (List.replicate n e.zero) [] [] (fun l rd ups=>K (.val (.arr n e) l) rd ups)=some r) (hn:dV c σ a o w M ν K r next):o.wp P a w next Q:=by
 have hl:=hE.ty t _ ht
 obtain⟨e',hu,hle⟩:=hl.arr
 obtain⟨i,hi,hs,hz,_⟩:=hl.base
 obtain⟨ie,hie,hes,_⟩:=hle.base
 have hr0:=Rd.arr.1 (Rd.zero w M (.arr n e))
 obtain⟨l',vA,jZ,M',cs',hK,eY,AE,DV,JP,dU,hf⟩:=wE (partsOf σ.ρ ps) (ps.toList.map fun(p:Nat×Operand)=>(p.1,a.eval p.2)) σ.H M (List.replicate n e.zero) (Ty.cf (.arr n e)).toArray [] [] _ (.refl _) hc.mem (hc.pr ps.toList)
  (by rw[atT]) (by rw[auG];exact hr0.2.1) hr0.2.2 rfl h
 refine aO (uA ho (run_build w t _ cs' ?_)) (hn _ _ _ _ _ _ _ hK eY (VR.JQ rfl (Rd.arr.2 ⟨DV,by rw[atO];exact JP,dU⟩)))
 unfold Program.built
 rw[hi,hu]
 simp only[hz,hie,hes,pE]
 exact hf
theorem xx(hE:EnvTy P E)(hc:Core c σ a.tmps w M ν){t:TypeId}{ps:Array (Nat×Operand)}(ho:o.op= .build t ps){K:fE α}{τ:Ty}(ht:E.ty t=some τ)(Xg: ∀n e,τ≠ .arr n e)
  (h:cond τ.isAgg (pA τ σ.H (partsOf σ.ρ ps) τ.zero [] [] (fun l rd ups=>K (Q7 E (partsOf σ.ρ ps) τ l) rd ups)) none=some r) (hn:dV c σ a o w M ν K r next):o.wp P a w next Q:=by
 obtain⟨El,h⟩:=bB h
 have hl:=hE.ty t _ ht
 obtain⟨fs,pl,hu,HH,YI⟩:=hl.places El Xg
 obtain⟨i,hi,hs,hz,_⟩:=hl.base
 obtain⟨l',vA,jZ,M',cs',hK,eY,AE,dU,hf,Ig⟩:=CG (place:=(pl.toArray[·]?)) (fun x n υ y o hf=>by simpa using YI x n υ y o hf) (partsOf σ.ρ ps) (ps.toList.map fun(p:Nat×Operand)=>(p.1,a.eval p.2)) σ.H M τ.zero τ.cf.toArray [] [] _ (.refl _) hc.mem (hc.pr ps.toList)
  (Rd.zero w M τ) rfl h
 have hvr:VR w M' (bU σ.H jZ) ν (Q7 E (partsOf σ.ρ ps) τ l') (.agg cs'):=by
  unfold Q7
  split
  ·rename_i n e oK
   cases jw:(partsOf σ.ρ ps).all fun p=> !(Nat.beq p.1 n)
   ·exact VR.JQ El dU
   ·have hq:=JK oK
    show VR w M' (bU σ.H jZ) ν (.Cr τ l' n) (.agg cs')
    have hv:=VR.JQ (H:=bU σ.H jZ) (ν:=ν) El dU
    simp only[VR]at hv ⊢
    refine⟨hv,cs',none,rfl,?_⟩
    have hfq:Cq τ n=some (.slice e):=by
     unfold eC at hq
     split at hq
     ·rename_i a ha
      rw[ha]
      have:=atY hq
      rw[this]
     ·cases hq
    have h2:=Ig n _ hfq jw
    have h3:=Br hq
    simp only[bD,avK]at h3
    have h4:=avh (fun l=>l[0]?) h2
    simp only[auN,auO,avK]at h4
    rw[atK (show 0<(Ty.slice e).size from Nat.one_pos),atK (show 0<(Ty.slice e).size from Nat.one_pos)]at h4
    rw[h4];exact h3
  ·exact VR.JQ El dU
 refine aO (uA ho (run_build w t _ cs' ?_)) (hn _ _ _ _ _ _ _ hK eY hvr)
 unfold Program.built
 rw[hi,hu]
 have hzc:(bK τ τ.cf).cells=τ.cf.toArray:=by apply avx;rw[eI]
 simp only[hz,HH,pE,hzc]
 exact hf
theorem AV(hE:EnvTy P E)(hc:Core c σ a.tmps w M ν){t:TypeId}{n:Nat}{ps:Array (Nat×Operand)}(ho:o.op= .buildSlice t n ps){K:fE α}{e:Ty}(ht:E.ty t=some (.slice e)){id:Nat}
  (h:cond (Nat.ble (n*(e.size+1)) 16777216) (mM σ.H id (.own e []) (qW e σ.H n (partsOf σ.ρ ps) (List.replicate n e.zero) [] [] fun l rd ups=>K (.ref id) (id::rd) (ups++[(id,some (.own e l))]))) none=some r)
  (hn:dV c σ a o w M ν K r next):o.wp P a w next Q:=by
 obtain⟨hb,h⟩:=bB h
 obtain⟨aT,h⟩:=ig h
 have hb:=awr hb
 rw[Nat.mul_add,Nat.mul_one]at hb
 obtain⟨e',hu,hle⟩:=(hE.ty t _ ht).slice
 obtain⟨ie,hie,hes,hz,_⟩:=hle.base
 obtain⟨l',vA,jZ,M',cs',hK,eY,AE,DV,JP,dU,hf⟩:=wE (partsOf σ.ρ ps) (ps.toList.map fun(p:Nat×Operand)=>(p.1,a.eval p.2)) σ.H M (List.replicate n e.zero) (madeCells (bK e e.cf).cells (n*e.size)) [] [] _ (.refl _) hc.mem (hc.pr ps.toList)
  (by rw[atT]) (size_madeCells _ _) (mR.made w M e (atP _)) rfl h
 have Yv:bU σ.H jZ id=none:=AE.none aT
 have q6:=eY.trans (Tr.row eY.mem Yv e' (e:=e) (cs:=cs') (l:=l') (cap:=n) (by omega) (by simp[maxLen];omega) JP dU)
 have cD:(Instr.buildSlice t n (ps.map fun(i,x)=>(i,a.eval x))).run P w= .ok (.slice (some ⟨w.heap.size,0,none⟩) n n) (w.alloc (.cells cs' e')):=by
  by_cases h0:n*e.size=0
  ·rw[h0]at hf
   have YJ:madeCells (bK e e.cf).cells 0=(Array.range 0).map fun i:Nat=>(#[]:Array Value)[i%0]! :=by simp[madeCells]
   rw[YJ]at hf
   rw[←pE]at hf
   simp[Instr.buildSlice,run_underlying hu,Go.sizeOf,typeInfo,hie,hes,h0,newRow]at hf ⊢
   simp[hf]
  ·refine run_buildSlice w t e' n _ cs' ie _ hu hie hz (by rw[hes];omega) (by rw[hes];exact h0) ?_
   rw[hes,pE]
   exact hf
 refine aO (uB ho cD) (hn _ _ _ _ _ (fun b=>M' b∨b=w.heap.size) (cn ν id (.slice (some ⟨w.heap.size,0,none⟩) l'.length n)) hK ?_ ?_)
 ·rw[ei];exact q6
 ·simp only[VR]
  exact⟨by rw[ei];show bo _ id _ id≠none;rw[ak];simp,by simp[cn,DV]⟩
end VM
end
section
namespace VM
open Go
variable{P:Program}{E:Env}{o:Oper}{a:Act}{w:World}{M:Nat→Prop}{ν:Nat→Value}{σ:St}{c:Ctx}{α:Type}{r:α}{next:Act→World→Prop}{Q:Exit→Act→World→Prop}
def QL(o:Option Value)(d l:Int):Prop:=(o=none∧l=d)∨ ∃k,o=some (.int k l)
theorem mT(hc:Core c σ a.tmps w M ν){x:Option Operand}{d:Int}{k:Int→Option α}(h:tf (x.map σ.ρ) d k=some r): ∃l,k l=some r∧QL (x.map a.eval) d l:=by
 cases x with
 |none=>exact⟨d,h,.inl ⟨rfl,rfl⟩⟩
 |some x=>
  obtain⟨i,n,hx,h⟩:=ju (h:qU (σ.ρ x) (fun _ x=>k x)=some r)
  have hv:=hc.ev x
  rw[hx]at hv
  exact⟨n,h,.inr ⟨i,by rw[←hv.int];rfl⟩⟩
theorem qx{s:Bool}{len cap:Nat}{lo hi mx:Option Value}{l h m:Int}(xy:QL lo 0 l)(JR:QL hi len h)(Nz:QL mx cap m)(hm:mx.isNone=true∨hi.isSome=true)
  (h0:0≤l) (h1:l≤h) (h2:h≤m) (h3:m≤cap):(Instr.sliceBounds s len cap lo hi mx).run P w= .ok (l.toNat,h.toNat,m.toNat) w:=by
 have hb: ∀(k:IntKind) (i:Int) (y:Nat) cd,0≤i→i≤y→(Instr.sliceBound (.int k i) y cd).run P w= .ok i.toNat w:=by
  intro k i y cd h1 h2
  simp[Instr.sliceBound,asIntOf,h1,h2]
 have gP:((m.toNat:Nat):Int)=m:=by omega
 have hh':((h.toNat:Nat):Int)=h:=by omega
 rcases Nz with⟨rfl,rfl⟩|⟨km,rfl⟩
 ·rcases JR with⟨rfl,rfl⟩|⟨kh,rfl⟩
  ·rcases xy with⟨rfl,rfl⟩|⟨kl,rfl⟩
   ·simp[Instr.sliceBounds]
   ·simp[Instr.sliceBounds,hb kl l len _ h0 h1]
  ·rcases xy with⟨rfl,rfl⟩|⟨kl,rfl⟩
   ·simp[Instr.sliceBounds,hb kh h cap _ (by omega) h2]
   ·simp[Instr.sliceBounds,hb kh h cap _ (by omega) h2,hb kl l h.toNat _ h0 (by omega)]
 ·rcases JR with⟨rfl,rfl⟩|⟨kh,rfl⟩
  ·simp at hm
  ·rcases xy with⟨rfl,rfl⟩|⟨kl,rfl⟩
   ·simp[Instr.sliceBounds,hb km m cap _ (by omega) h3,hb kh h m.toNat _ (by omega) (by omega)]
   ·simp[Instr.sliceBounds,hb km m cap _ (by omega) h3,hb kh h m.toNat _ (by omega) (by omega),hb kl l h.toNat _ h0 (by omega)]
theorem AW{ρ:Operand→Value}{t:TypeId}{x:Operand}{lo hi mx:Option Operand}(ho:o.op= .slice t x lo hi mx){s:ByteArray}{l h:Int}(hu:P.underlying t=some .string)(hx:ρ x= .string s)
  (xy:QL (lo.map ρ) 0 l) (JR:QL (hi.map ρ) s.size h) (Nz:mx.isNone=true) (h0:0≤l) (h1:l≤h) (h2:h≤s.size):(execOp ρ o).run P w= .ok (.value (.string (s.extract l.toNat h.toNat))) w:=by
 have hm:mx=none:=by simpa using Nz
 subst hm
 have hb:=qx (P:=P) (w:=w) (s:=false) xy JR (.inl ⟨rfl,rfl⟩) (.inl rfl) h0 h1 h2 (au2 _)
 simp[execOp,ho,hx,Instr.sliceAt,Instr.slice,run_underlying hu,hb]
theorem pF{ρ:Operand→Value}{t e:TypeId}{x:Operand}{lo hi mx:Option Operand}(ho:o.op= .slice t x lo hi mx){τ:Ty}{ad:Option Addr}{len cap:Nat}{l h m:Int}(hu:P.underlying t=some (.slice e))(hle:gM P τ e)(hx:ρ x= .slice ad len cap)
  (xy:QL (lo.map ρ) 0 l) (JR:QL (hi.map ρ) len h) (Nz:QL (mx.map ρ) cap m) (hm:(mx.map ρ).isNone=true∨(hi.map ρ).isSome=true) (h0:0≤l) (h1:l≤h) (h2:h≤m) (h3:m≤cap):
  (execOp ρ o).run P w= .ok (.value (.slice (if m.toNat=l.toNat then ad else ad.map (·.add (l.toNat*τ.size))) (h.toNat-l.toNat) (m.toNat-l.toNat))) w:=by
 have hb:=qx (P:=P) (w:=w) (s:=true) xy JR Nz hm h0 h1 h2 h3
 simp[execOp,ho,hx,Instr.sliceAt,Instr.slice,run_underlying hu,hb,cc hle]
theorem wF{x:Option Operand}(h:ix x=true)(a:Act): ∃k,x.map a.eval=some (.int k 0):=by
 unfold ix at h
 split at h
 ·rename_i k n
  have:n=0:=by simpa using h
  subst this
  exact⟨k,rfl⟩
 ·cases h
theorem Rd.cut{e:Ty}{ad:Option Addr}{len cap:Nat}{x:List e.den}(h:Rd w M (.slice e) [.slice ad len cap] x){l hh m:Int}(h0:0≤l)(h1:l≤hh)(h2:hh≤m)(hl:hh≤x.length):
  Rd w M (.slice e) [.slice (if m.toNat=l.toNat then ad else ad.map (·.add (l.toNat*e.size))) (hh.toNat-l.toNat) (m.toNat-l.toNat)] (List.drop l.toNat (List.take hh.toNat x)):=by
 simp only[Rd,auv,au3]at h ⊢
 obtain⟨a',jx,hv,hc,hr⟩:=h
 cases hv
 have hlen:List.length (List.drop l.toNat (List.take hh.toNat x))=hh.toNat-l.toNat:=by rw[aum,at4];omega
 refine⟨_,_,by rw[hlen],by rw[hlen];omega,fun i hi=> ?_⟩
 rw[hlen]at hi
 obtain⟨b,off,ha,hb,hm,cs,ma,g4⟩:=hr (l.toNat+i) (by omega)
 rw[atL (by omega)]
 refine⟨b,off+l.toNat*e.size,by rw[ha];simp[Addr.add_lit],hb,hm,cs,?_,?_⟩
 ·rw[show off+l.toNat*e.size+i*e.size=off+(l.toNat+i)*e.size from by rw[auE];omega];exact ma
 ·simp only[awv,List.getElem_drop,List.getElem_take]at g4 ⊢
  exact g4
theorem VR.emp{H:Nat→Option aR}{v:Value}:VR w M H ν .emp v↔ ∃ad,v= .slice ad 0 0:=by simp[VR]
theorem NA(hE:EnvTy P E)(hc:Core c σ a.tmps w M ν){t:TypeId}{x:Operand}{lo hi mx:Option Operand}(ho:o.op= .slice t x lo hi mx){K:fE α}{τ:Ty}(ht:E.ty t=some τ)
  (h:mO τ (lo.isNone&&ix hi&&ix mx) (σ.ρ x) (lo.map σ.ρ) (hi.map σ.ρ) (mx.map σ.ρ) σ.H K=some r) (hn:dV c σ a o w M ν K r next):o.wp P a w next Q:=by
 have ux:=hE.ty t τ ht
 have hv:=hc.ev x
 have hz0: ∀(e:Ty) (e':TypeId) (ad:Option Addr) (len cap:Nat),P.underlying t=some (.slice e')→gM P e e'→a.eval x= .slice ad len cap→(lo.isNone&&ix hi&&ix mx)=true→
   ∃ad',(execOp a.eval o).run P w= .ok (.value (.slice ad' 0 0)) w:=by
  intro e e' ad len cap hu hle hx hz
  simp only[atW]at hz
  obtain⟨⟨h1,h2⟩,h3⟩:=hz
  have h1:lo=none:=by simpa using h1
  subst h1
  obtain⟨k2,h2⟩:=wF h2 a
  obtain⟨k3,h3⟩:=wF h3 a
  have:=pF (P:=P) (w:=w) ho hu hle hx (l:=0) (h:=0) (m:=0) (.inl ⟨rfl,rfl⟩) (.inr ⟨k2,h2⟩) (.inr ⟨k3,h3⟩) (.inr (by rw[h2];rfl)) (by omega) (by omega) (by omega) (by omega)
  exact⟨_,this⟩
 unfold mO at h
 split at h
 ·rename_i s hx
  obtain⟨hm,h⟩:=bB h
  obtain⟨l,h,xy⟩:=mT hc h
  obtain⟨hh,h,JR⟩:=mT hc h
  obtain⟨hk,h⟩:=bB h
  rw[ui]at hk
  obtain⟨h0,h1,h2,h3⟩:=atY hk
  rw[hx]at hv
  exact aO (AW ho ux.str hv.str xy JR (by simpa using hm) h0 h1 h2) (hn _ [] [] _ _ _ _ h (.refl hc.mem) (.mkStr _))
 ·rename_i e hx
  obtain⟨e',hu,hle⟩:=ux.slice
  rw[hx]at hv
  obtain⟨ad,hv⟩:=VR.emp.1 hv
  cases hz:(lo.isNone&&ix hi&&ix mx)
  ·rw[hz]at h
   replace h:cond (mx.map σ.ρ).isNone (tf (lo.map σ.ρ) 0 fun l=>tf (hi.map σ.ρ) 0 fun h=>cond (fM l h 0 0) (K .emp [] []) none) none=some r:=h
   obtain⟨hm,h⟩:=bB h
   obtain⟨l,h,xy⟩:=mT hc h
   obtain⟨hh,h,JR⟩:=mT hc h
   obtain⟨hk,hK⟩:=bB h
   rw[ui]at hk
   obtain⟨h0,h1,h2,h3⟩:=atY hk
   have gP:mx=none:=by simpa using hm
   subst gP
   have:=pF (P:=P) (w:=w) ho hu hle hv xy JR (.inl ⟨rfl,rfl⟩) (.inl rfl) h0 h1 (m:=0) (by omega) (by omega)
   refine aO this (hn _ [] [] _ _ _ _ hK (.refl hc.mem) (VR.emp.2 ?_))
   rw[show hh.toNat-l.toNat=0 from by omega,show(0:Int).toNat-l.toNat=0 from by omega]
   exact⟨_,rfl⟩
  ·rw[hz]at h
   obtain⟨ad',cD⟩:=hz0 e e' ad 0 0 hu hle hv hz
   exact aO cD (hn _ [] [] _ _ _ _ h (.refl hc.mem) (VR.emp.2 ⟨_,rfl⟩))
 ·rename_i e ib
  obtain⟨e',hu,hle⟩:=ux.slice
  cases hz:(lo.isNone&&ix hi&&ix mx)
  ·rw[hz]at h
   obtain⟨y,rd,ups,M',h,eY,hV,_⟩:=j2 (.refl _) hc.mem hv h
   replace h:cond ((mx.map σ.ρ).isNone||(hi.map σ.ρ).isSome) (tf (lo.map σ.ρ) 0 fun l=>tf (hi.map σ.ρ) (List.length y:Int) fun h=>tf (mx.map σ.ρ) (List.length y:Int) fun m=>
    cond (fM l h m (List.length y:Int)) (K (.val (.slice e) (List.drop l.toNat (List.take h.toNat y))) rd ups) none) none=some r:=h
   obtain⟨hm,h⟩:=bB h
   obtain⟨l,h,xy⟩:=mT hc h
   obtain⟨hh,h,JR⟩:=mT hc h
   obtain⟨m,h,Nz⟩:=mT hc h
   obtain⟨hk,h⟩:=bB h
   rw[ui]at hk
   obtain⟨h0,h1,h2,h3⟩:=atY hk
   have hr:=V.slice.1 hV
   have dU:=hr
   simp only[Rd,auv,au3]at dU
   obtain⟨ad,cap,hx,adK,_⟩:=dU
   rw[hx]at hr
   have gP:(mx.map a.eval).isNone=true∨(hi.map a.eval).isSome=true:=by
    simp only[avf,Option.isNone_map,Option.isSome_map]at hm ⊢;exact hm
   have YK: ∃m',QL (mx.map a.eval) cap m'∧hh≤m'∧m'≤cap:=by
    rcases Nz with⟨h9,_⟩|⟨k,h9⟩
    ·exact⟨cap,.inl ⟨h9,rfl⟩,by omega,au2 _⟩
    ·exact⟨m,.inr ⟨k,h9⟩,h2,by omega⟩
   obtain⟨m',YK,h4,h5⟩:=YK
   have cD:=pF (P:=P) (w:=w) ho hu hle hx xy JR YK gP h0 h1 h4 h5
   refine aO cD (hn _ _ _ _ _ M' _ h eY ?_)
   simp only[VR]
   exact V.slice.2 (hr.cut h0 h1 h4 (by omega))
  ·rw[hz]at h
   obtain⟨y,rd,h,hS⟩:=wz hc.mem hv h
   obtain⟨ad,cap,hx,_⟩:=hS
   obtain⟨ad',cD⟩:=hz0 e e' ad _ cap hu hle hx hz
   exact aO cD (hn _ _ [] _ _ _ _ h (.refl hc.mem) (VR.emp.2 ⟨_,rfl⟩))
 ·cases h
end VM
end
section
namespace VM
open Go
variable{P:Program}{E:Env}{o:Oper}{a:Act}{w:World}{M:Nat→Prop}{ν:Nat→Value}{σ:St}{c:Ctx}{α:Type}{r:α}{next:Act→World→Prop}{Q:Exit→Act→World→Prop}
theorem n0{t ty e:TypeId}{i:TypeInfo}(ht:P.underlying t=some (.slice e))(hi:P.info? e=some i)(base:Option Addr)(n cap:Nat)(h:n≤cap)(a':Option Addr)(cp:Nat):
  (Builtin.append_ #[t,t] ty #[.slice base n cap,.slice a' 0 cp]).run P w= .ok (.slice base n cap) w:=by
 cases a'<;>cases base<;>simp[Builtin.append_,run_underlying ht,Go.sizeOf,typeInfo,hi,Builtin.lenOf,h,Builtin.firstCells,loadCells,loadCellsFrom,storeCells]
theorem Ez{t ty e te:TypeId}{i:TypeInfo}(ht:P.underlying t=some (.slice e))(hi:P.info? e=some i){b n cap m cp:Nat}{a':Addr}{news:List Value}{cs:Array Value}
  (hg:w.heap[b]? =some (.cells cs te (0,0))) (hs:cs.size=cap*i.size) (hl:news.length=m*i.size) (hn: ∀j u,news[j]? =some u→w.cell? (a'.add j)=some u) (h1: ∀u∈news,u.oneCell'=true) (hr:n+m≤cap):
  (Builtin.append_ #[t,t] ty #[.slice (some ⟨b,0,none⟩) n cap,.slice (some a') m cp]).run P w= .ok (.slice (some ⟨b,0,none⟩) (n+m) cap) (w.setRow b (di cs.toList (n*i.size) news).toArray):=by
 have hf:=run_firstCells_some (P:=P) w i.size m a' m cp news hl hn
 have hm:(n+m)*i.size≤cap*i.size:=auJ _ hr
 rw[auE]at hm
 have q4:=run_storeCells_at (P:=P) b (n*i.size) te news 0 cs w hg (by omega) h1
 simp only[avK]at q4
 simp[Builtin.append_,run_underlying ht,Go.sizeOf,typeInfo,hi,Builtin.lenOf,hr,hf,Addr.add_lit,q4,di]
theorem eU{args:Array Operand}{t:TypeId}{x y:Operand}{v:Value}{w':World}(ho:o.op= .call {callee:= .builtin .append,args,argTypes:= #[t,t]})(ha:args.toList=[x,y])
  (h:(Builtin.append_ #[t,t] o.type #[a.eval x,a.eval y]).run P w= .ok v w'):(execOp a.eval o).run P w= .ok (.value v) w':=by
 obtain⟨cs,hr⟩:=mQ (P:=P) (ρ:=a.eval) ho (w:=w)
 rw[hr]
 have:args.map a.eval= #[a.eval x,a.eval y]:=by apply avx;simp[ha]
 rw[this]
 simp[builtin,h]
theorem yK{H:Nat→Option aR}(hm:Mem c H w M ν){id:Nat}(aT:H id=none){t ty:TypeId}{e':TypeId}{e:Ty}(hu:P.underlying t=some (.slice e'))(hle:gM P e e')
  {xs ys:List e.den} {olds news:List Value} {base:Option Addr} {cap cp:Nat} {a':Addr} (NB:base=none→xs=[]∧cap=0)
  (xy:olds.length=xs.length*e.size) (hro:mR w M e olds xs) (ho: ∀b,base=some b→ ∀j u,olds[j]? =some u→w.cell? (b.add j)=some u)
  (QM:news.length=ys.length*e.size) (hrn:mR w M e news ys) (hn: ∀j u,news[j]? =some u→w.cell? (a'.add j)=some u)
  (hg:cap<xs.length+ys.length) (hs:xs.length+ys.length<uh):
  ∃v w' M' ν',(Builtin.append_ #[t,t] ty #[.slice base xs.length cap,.slice (some a') ys.length cp]).run P w= .ok v w'∧Tr c H w M ν (bo H id (some (.own e (xs++ys)))) w' M' ν'∧ν' id=v:=by
 obtain⟨i,hi,pv,hz,YL⟩:=hle.base
 have hzs:(bK e e.cf).cells.size=e.size:=by rw[←atO,eI,kH]
 have Xh:xs.length+ys.length≤maxLen:=by simp only[uh,maxLen]at hs ⊢;omega
 have EA:(xs.length+ys.length)*i.bytes≤140737488355328:=by
  have:(xs.length+ys.length)*i.bytes≤68719476736*2048:=awy (by simp only[uh]at hs;omega) YL
  omega
 have cD: ∃jx rest,(Builtin.append_ #[t,t] ty #[.slice base xs.length cap,.slice (some a') ys.length cp]).run P w= .ok (.slice (some ⟨w.heap.size,0,none⟩) (xs.length+ys.length) jx) (w.drew.alloc (.cells (olds++news++rest).toArray e'))∧
   xs.length+ys.length≤jx∧jx≤maxLen∧rest.length=(jx-(xs.length+ys.length))*e.size:=by
  refine⟨grownCap w (xs.length+ys.length) cap e',(Builtin.zeroCells (bK e e.cf).cells (grownCap w (xs.length+ys.length) cap e'-(xs.length+ys.length))).toList,?_,grownCap_ge _ _ _ _,grownCap_le_maxLen _ _ _ _ Xh,?_⟩
  ·cases base with
   |none=>
    obtain⟨rfl,rfl⟩:=NB rfl
    have ho0:olds=[]:=auQ (by rw[xy];simp)
    subst ho0
    have:=run_append_nil (P:=P) w t ty e' i _ hu hi hz a' ys.length cp news (by rw[QM,pv]) hn (by simpa using hg) (by simp only[uh]at hs;omega) (by simp at EA;omega)
    simp only[aua,auP,aug]
    rw[this]
    congr 2
    apply avh (fun z=>Obj.cells z e' (0,0))
    apply avx;simp
   |some b=>
    have:=run_append_grow (P:=P) w t ty e' i _ hu hi hz b xs.length cap olds (by rw[xy,pv]) (ho b rfl) a' ys.length cp news (by rw[QM,pv]) hn hg (by simp only[uh]at hs;omega) (growslice_fits hg EA)
    rw[this]
    congr 2
    apply avh (fun z=>Obj.cells z e' (0,0))
    apply avx;simp
  ·rw[atO,size_zeroCells,hzs]
 obtain⟨jx,rest,cD,Ey,YM,adP⟩:=cD
 have hlen:(xs++ys).length=xs.length+ys.length:=atJ
 have hd:=Tr.drew hm
 have hon:(olds++news).length=(xs++ys).length*e.size:=by rw[atJ,xy,QM,hlen,auE]
 have Ih:=Tr.row hd.mem aT e' (e:=e) (cs:=(olds++news++rest).toArray) (l:=xs++ys) (cap:=jx) (by rw[hlen];exact Ey) YM
  (by rw[auG,atJ,hon,adP,hlen,←auE];congr 1;omega)
  (mR.more ((hro.append xy hrn).bp hd.bp) (by rw[hon];exact atP _))
 refine⟨_,_,_,_,cD,hd.trans Ih,?_⟩
 rw[←hlen];simp[cn]
theorem K7(hE:EnvTy P E)(hc:Core c σ a.tmps w M ν){args:Array Operand}{ts:Array TypeId}{t t':TypeId}{x y:Operand}(ho:o.op= .call {callee:= .builtin .append,args,argTypes:=ts})(ha:args.toList=[x,y])(hts:ts.toList=[t,t']){K:fE α}{e:Ty}
  (ht:E.ty t=some (.slice e)) {id:Nat} (h:cond (Nat.beq t t') (mM σ.H id (.own e []) (Eb id e (σ.ρ x) (σ.ρ y) σ.H K)) none=some r) (hn:dV c σ a o w M ν K r next):o.wp P a w next Q:=by
 obtain⟨htt,h1⟩:=bB h
 clear h
 have htt:=auj htt
 subst htt
 obtain⟨aT,h⟩:=ig h1
 clear h1
 have ajr:ts= #[t,t]:=by apply avx;simpa using hts
 subst ajr
 obtain⟨e',hu,hle⟩:=(hE.ty t _ ht).slice
 obtain⟨i,hi,pv,hz,YL⟩:=hle.base
 have CF:=hc.ev x
 unfold Eb at h
 obtain⟨ys,rd,h,hS⟩:=wz hc.mem (hc.ev y) h
 have YN:(ys=[]∧ ∃a' cp,a.eval y= .slice a' 0 cp)∨(ys≠[]∧ ∃a' cp news,a.eval y= .slice (some a') ys.length cp∧news.length=ys.length*e.size∧(∀j u,news[j]? =some u→w.cell? (a'.add j)=some u)∧mR w M e news ys∧ ∀u∈news,u.oneCell'=true):=by
  by_cases hy:ys=[]
  ·left
   obtain⟨a',cp,hv,_⟩:=hS
   exact⟨hy,a',cp,by rw[hv,hy];rfl⟩
  ·right
   obtain⟨b,off,cp,news,hv,hl,ma,g4,h1⟩:=hS.cells hy
   exact⟨hy,⟨b,off,none⟩,cp,news,hv,hl,fun j u hj=>by rw[Addr.add_lit];exact ma j u hj,g4,h1⟩
 split at h
 ·
  rename_i hx
  rw[hx]at CF
  obtain⟨ad,CF⟩:=VR.emp.1 CF
  obtain⟨QN,h⟩:=bB h
  rw[yv]at QN
  have QN:=atY QN
  rcases YN with⟨rfl,a',cp,xu⟩|⟨hy,a',cp,news,xu,hl,ma,g4,h1⟩
  ·refine aO (eU ho ha (by rw[CF,xu];exact n0 hu hi ad 0 0 (atP _) a' cp)) (hn _ _ _ _ _ _ _ h (Tr.nothing hc.mem aT e ad) ?_)
   simp only[VR]
   exact⟨by show bo _ id _ id≠none;rw[ak];simp,by simp[cn]⟩
  ·have Ii:0<ys.length:=au1.2 hy
   obtain⟨v,w',M',ν',cD,eY,hv⟩:=yK (P:=P) (ty:=o.type) hc.mem aT hu hle (xs:=[]) (ys:=ys) (olds:=[]) (news:=news) (base:=ad) (cap:=0) (cp:=cp) (a':=a') (fun _=>⟨rfl,rfl⟩) (by simp) (fun i hi=>absurd hi (by simp)) (fun _ _ j u hj=>by simp at hj)
    hl g4 ma (by simpa using Ii) (by simpa using QN)
   refine aO (eU ho ha (by rw[CF,xu];exact cD)) (hn _ _ _ _ _ _ _ h eY ?_)
   simp only[VR]
   exact⟨by show bo _ id _ id≠none;rw[ak];simp,hv.symm⟩
 ·
  rename_i j hx
  rw[hx]at CF
  simp only[VR]at CF
  obtain⟨_,CF⟩:=CF
  split at h
  ·rename_i e1 l hj
   obtain⟨e2,h⟩:=aY h
   cases e2
   obtain⟨QN,h⟩:=bB h
   rw[yv]at QN
   have QN:l.length+ys.length<uh:=atY QN
   have ib:id≠j:=fun e=>by rw[e,hj]at aT;cases aT
   have lG:bo σ.H j (some .gone) id=none:=by rw[al _ _ ib];exact aT
   have HI:=Tr.gone hc.mem j
   have jh:=hc.mem.iT j _ hj
   simp only[ER]at jh
   rcases jh with⟨rfl,ad,YO⟩|⟨b,cs,te,cap,YO,hg,hM,MZ,hl,AB,hs,hr⟩
   ·rw[YO]at CF
    rcases YN with⟨rfl,a',cp,xu⟩|⟨hy,a',cp,news,xu,hl,ma,g4,h1⟩
    ·refine aO (eU ho ha (by rw[CF,xu];exact n0 hu hi ad 0 0 (atP _) a' cp)) (hn _ _ _ _ _ _ _ h (HI.trans (Tr.nothing HI.mem lG e ad)) ?_)
     simp only[VR]
     exact⟨by show bo _ id _ id≠none;rw[ak];simp,by simp[cn]⟩
    ·have Ii:0<ys.length:=au1.2 hy
     obtain⟨v,w',M',ν',cD,eY,hv⟩:=yK (P:=P) (ty:=o.type) HI.mem lG hu hle (xs:=[]) (ys:=ys) (olds:=[]) (news:=news) (base:=ad) (cap:=0) (cp:=cp) (a':=a') (fun _=>⟨rfl,rfl⟩) (by simp) (fun i hi=>absurd hi (by simp)) (fun _ _ j u hj=>by simp at hj)
      hl g4 ma (by simpa using Ii) (by simpa using QN)
     refine aO (eU ho ha (by rw[CF,xu];exact cD)) (hn _ _ _ _ _ _ _ h (HI.trans eY) ?_)
     simp only[VR]
     exact⟨by show bo _ id _ id≠none;rw[ak];simp,hv.symm⟩
   ·rw[YO]at CF
    have DX:cs.toList.length=cap*e.size:=by rw[atO,hs]
    have K8:l.length*e.size≤cap*e.size:=auJ _ hl
    rcases YN with⟨rfl,a',cp,xu⟩|⟨hy,a',cp,news,xu,QM,ma,g4,h1⟩
    ·refine aO (eU ho ha (by rw[CF,xu];exact n0 hu hi _ _ cap hl a' cp)) (hn _ _ _ _ _ M (cn ν id (ν j)) h ?_ ?_)
     ·refine Tr.rename hc.mem hj aT (.inr rfl) ?_
      rw[auh]
      exact hc.mem.iT j _ hj
     ·simp only[VR]
      exact⟨by show bo _ id _ id≠none;rw[ak];simp,by simp[cn,YO]⟩
    ·by_cases uC:l.length+ys.length≤cap
     ·have hmul:(l.length+ys.length)*e.size≤cap*e.size:=auJ _ uC
      rw[auE]at hmul
      have cD:=Ez (P:=P) (ty:=o.type) hu hi (w:=w) (b:=b) (n:=l.length) (cap:=cap) (m:=ys.length) (cp:=cp) (a':=a') (news:=news) (cs:=cs) hg (by rw[hs,pv]) (by rw[QM,pv]) ma h1 uC
      rw[pv]at cD
      have Re:di cs.toList (l.length*e.size) news=(cs.toList.take (l.length*e.size)++news)++cs.toList.drop (l.length*e.size+news.length):=rfl
      have hold:mR w M e (cs.toList.take (l.length*e.size)) l:=mR.take hr (atP _)
      have htl:(cs.toList.take (l.length*e.size)).length=l.length*e.size:=by rw[at4];omega
      have Xi:mR w M e (di cs.toList (l.length*e.size) news) (l++ys):=by
       rw[Re]
       refine mR.more (hold.append htl g4) ?_
       rw[atJ,atJ,htl,QM,auE];exact atP _
      have hsl:(di cs.toList (l.length*e.size) news).length=cap*e.size:=by rw[et (by omega)];exact DX
      have Rm:Tr c σ.H w M ν (bo σ.H j (some (.own e l))) (w.setRow b (di cs.toList (l.length*e.size) news).toArray) M ν:=by
       refine Tr.write (e':= .own e l) hc.mem hj trivial trivial (.refl _) (by rw[YO];simp[eA];omega) hg fun HF hk vF=> ?_
       simp only[ER]
       refine .inr ⟨b,_,te,cap,YO,setRow_heap w b cs _ te _ hg,vF,MZ,hl,AB,by rw[auG];exact hsl,fun k AT=> ?_⟩
       have:=(Xi k (by rw[atJ];omega)).bp hk
       rw[av4 AT]at this
       exact this
      rw[vD hj]at Rm
      have q6:Tr c σ.H (w.setRow b (di cs.toList (l.length*e.size) news).toArray) M ν (bo (bo σ.H j (some .gone)) id (some (.own e (l++ys)))) (w.setRow b (di cs.toList (l.length*e.size) news).toArray) M (cn ν id (.slice (some ⟨b,0,none⟩) (l++ys).length cap)):=by
       refine Tr.rename Rm.mem hj aT (.inr (by rw[YO];simp[eA])) ?_
       simp only[ER]
       refine .inr ⟨b,_,te,cap,rfl,setRow_heap w b cs _ te _ hg,hM,MZ,by rw[atJ];exact uC,AB,by rw[auG];exact hsl,(Xi.bp Rm.bp)⟩
      refine aO (eU ho ha (by rw[CF,xu];exact cD)) (hn _ _ _ _ _ _ _ h (Rm.trans q6) ?_)
      simp only[VR]
      exact⟨by show bo _ id _ id≠none;rw[ak];simp,by simp[cn]⟩
     ·obtain⟨v,w',M',ν',cD,eY,hv⟩:=yK (P:=P) (ty:=o.type) HI.mem lG hu hle (xs:=l) (ys:=ys) (olds:=cs.toList.take (l.length*e.size)) (news:=news) (base:=some ⟨b,0,none⟩) (cap:=cap) (cp:=cp) (a':=a') (fun h=>by cases h)
       (by rw[at4];omega) (mR.take hr (atP _)) (fun b' dx k u hk=>by
        cases dx
        rw[Addr.add_lit,cell_of hg]
        rw[auN]at hk
        split at hk
        ·rw[←auo];simpa using hk
        ·cases hk)
       QM g4 ma (by omega) QN
      refine aO (eU ho ha (by rw[CF,xu];exact cD)) (hn _ _ _ _ _ _ _ h (HI.trans eY) ?_)
      simp only[VR]
      exact⟨by show bo _ id _ id≠none;rw[ak];simp,hv.symm⟩
  ·cases h
 ·cases h
end VM
end
section
namespace VM
open Go
variable{P:Program}{E:Env}{o:Oper}{a:Act}{w:World}{M:Nat→Prop}{ν:Nat→Value}{σ:St}{c:Ctx}{α:Type}{r:α}{next:Act→World→Prop}{Q:Exit→Act→World→Prop}
def qS:{m:AM}→{ms:List AM}→HP (m::ms)→m.den
 |_,[],x=>x
 |_,_::_,x=>x.1
def vz:{m:AM}→{ms:List AM}→HP (m::ms)→HP ms
 |_,[],_=>()
 |_,_::_,x=>x.2
def AM.fO:AM→Bool
 | .io _=>true
 |_=>false
def AM.Rn:AM→Bool
 | .fn _ _| .fA _=>true
 |_=>false
def A1(w:World)(M:Nat→Prop):(m:AM)→m.den→Value→Prop
 | .v τ,x,v=>V w M τ v x
 | .own e,x,v=>ER w M v (.own e x)
 | .io τ,x,v=>ER w M v (.obj τ x)
 | .fn f τ,x,v=>VR w M (fun _=>none) (fun _=>undef) (.D7 f (lR τ x)) v
 | .ptr τ,x,v=>ER w M v (.obj τ x)
 | .fA τ,x,v=>VR w M (fun _=>none) (fun _=>undef) (.mL τ x) v
def fY(w:World)(M:Nat→Prop):(ms:List AM)→HP ms→List Value→Prop
 |[],_,vs=>vs=[]
 |_::ms,x,vs=> ∃v DY,vs=v::DY∧A1 w M _ (qS x) v∧fY w M ms (vz x) DY
def cy:AM→Value→List Nat
 | .own _,v| .io _,v| .ptr _,v=>(eA v).toList
 |_,_=>[]
def cG:List AM→List Value→List Nat
 |m::ms,v::vs=>cy m v++cG ms vs
 |_,_=>[]
def du:List AM→List Value→List Value
 |m::ms,v::vs=>if m.fO then v::du ms vs else du ms vs
 |_,_=>[]
def kT:List AM→List Ty
 | .io τ::ms=>τ::kT ms
 |_::ms=>kT ms
 |[]=>[]
def RR(w:World)(M:Nat→Prop):(ms:List AM)→HP ms→List Value→List Value→Prop
 |[],_,vs,ps=>vs=[]∧ps=[]
 |m::ms,x,vs,ps=>(∃p AX,m.fO=true∧ps=p::AX∧A1 w M m (qS x) p∧RR w M ms (vz x) vs AX)∨
  (∃v DY,m.fO=false∧m.Rn=false∧vs=v::DY∧A1 w M m (qS x) v∧RR w M ms (vz x) DY ps)
def a8:List AM→List Value→List Value→List Nat
 |[],_,_=>[]
 |m::ms,vs,ps=>if m.fO then cy m (ps.headD undef)++a8 ms vs ps.tail else cy m (vs.headD undef)++a8 ms vs.tail ps
def Ty.flat:Ty→Bool
 | .slice _=>false
 | .pair a b=>a.flat&&b.flat
 | .arr _ e=>e.flat
 |_=>true
def AM.flat:AM→Bool
 | .v τ| .io τ| .own τ| .ptr τ=>τ.flat
 | .fn _ _| .fA _=>false
def ri(vs:List Value):Value:=if h:vs.length=1 then vs[0]else .tuple vs.toArray
structure Left(w:World)(M0:Nat→Prop)(hs:List Nat)(w':World)(M':Nat→Prop):Prop where
 sub: ∀b,M0 b→M' b
 yz: ∀b,M' b→b<w'.heap.size
 less: ∀b,b<w.heap.size→M' b→M0 b∨b∈hs
 frame: ∀b,b<w.heap.size→b∉hs→w'.heap[b]? =w.heap[b]?
 size:w.heap.size≤w'.heap.size
 os:w'.os=w.os
 tape:w'.tape=w.tape
 output:w'.output=w.output
def EB(P:Program)(f:FuncId)(args:Array Value)(w:World)(R:Value→World→Prop):Prop:=
 ∀(o:Oper) (a:Act) (next:Act→World→Prop) (Q:Exit→Act→World→Prop),(∀v w',R v w'→next (a.put o.dst v) w')→o.upon P a next Q ((callFunc f args).run P w)
theorem EB.mono{f:FuncId}{args:Array Value}{R R':Value→World→Prop}(h:EB P f args w R)(hr: ∀v w',R v w'→R' v w'):EB P f args w R':=
 fun o a next Q hn=>h o a next Q fun v w' hv=>hn v w' (hr v w' hv)
theorem oL{f:FuncId}{fn:Func}{args:Array Value}{R:Value→World→Prop}(hf:P.funcs[f]? =some fn)(hn:(fn.name== "runtime.NumGoroutine")=false)(hb:fn.body.isNone=false)
  (h:Calls P f args w fun e w'=> ∃v,e= .returned v∧R v w'):EB P f args w R:=by
 intro o a next Q sW
 have hn': ¬fn.name= "runtime.NumGoroutine" :=by simpa using hn
 have dx: ¬fn.body=none:=fun e=>by rw[e]at hb;cases hb
 have:(callFunc f args).run P w= .ok (.enter f args) w:=by simp[callFunc,hf,hn',dx]
 rw[this,Oper.upon_enter]
 refine Calls.mono h ?_
 rintro e w' ⟨v,rfl,hR⟩
 exact sW v w' hR
theorem AY{f:FuncId}{args:Array Value}{R:Value→World→Prop}{v:Value}{w':World}(h:(callFunc f args).run P w= .ok (.value v) w')(hR:R v w'):EB P f args w R:=by
 intro o a next Q sW
 rw[h,Oper.upon_value]
 exact sW v w' hR
structure eZ(P:Program)(f:FuncId)(S:ia):Prop where
 quiet:S.quiet=true→S.res.all AM.flat=true
 ios:kT S.args=kT S.res
 call: ∀(M0:Nat→Prop) (w:World) (vs:List Value) (x:HP S.args) (y:HP S.res),(∀b,M0 b→b<w.heap.size)→
  fY w (fun b=>M0 b∨b∈cG S.args vs) S.args x vs→(cG S.args vs).Nodup→(∀b∈cG S.args vs,¬M0 b)→S.run x=some y→
  EB P f vs.toArray w fun v w'=> ∃us M',v=ri us∧RR w' M' S.res y us (du S.args vs)∧Left w M0 (cG S.args vs) w' M'∧
   (a8 S.res us (du S.args vs)).Nodup∧ ∀b∈a8 S.res us (du S.args vs),¬M0 b
theorem Rd.flat{w:World}{M M':Nat→Prop}: ∀{τ:Ty} {cs:List Value} {x:τ.den},τ.flat=true→Rd w M τ cs x→Rd w M' τ cs x
 | .int _,_,_,_,h| .bool,_,_,_,h| .str,_,_,_,h| .unit,_,_,_,h=>h
 | .slice _,_,_,hf,_=>by simp[Ty.flat]at hf
 | .pair a b,_,_,hf,h=>by
  simp only[Ty.flat,atW]at hf
  simp only[Rd]at h ⊢
  obtain⟨c1,c2,rfl,h1,h2⟩:=h
  exact⟨c1,c2,rfl,h1.flat hf.1,h2.flat hf.2⟩
 | .arr n e,_,x,hf,h=>by
  simp only[Ty.flat]at hf
  simp only[Rd]at h ⊢
  obtain⟨hn,KV,hc,rfl,hr⟩:=h
  exact⟨hn,KV,hc,rfl,fun i hi kQ=>(hr i hi kQ).flat hf⟩
theorem A1.flat{w:World}{M M':Nat→Prop}(hM: ∀b,M b→M' b){m:AM}{x:m.den}{v:Value}(hf:m.flat=true)(h:A1 w M m x v):A1 w M' m x v:=by
 cases m with
 |v τ=>
  simp only[A1,V,AM.flat]at h hf ⊢
  split
  ·rename_i ha;rw[atK ha]at h;obtain⟨cs,h1,h⟩:=h;exact⟨cs,h1,h.flat hf⟩
  ·rename_i ha;rw[atL ha]at h;exact h.flat hf
 |own e=>
  simp only[A1,ER,AM.flat]at h hf ⊢
  rcases h with h|⟨b,cs,t,cap,h1,h2,h3,h4,h5,h6,h7,h8⟩
  ·exact .inl h
  ·exact .inr ⟨b,cs,t,cap,h1,h2,hM b h3,h4,h5,h6,h7,fun i hi=>(h8 i hi).flat hf⟩
 |io τ=>
  simp only[A1,ER,AM.flat]at h hf ⊢
  obtain⟨b,cs,t,h1,h2,h3,h4⟩:=h
  exact⟨b,cs,t,h1,h2,hM b h3,h4.flat hf⟩
 |fn f τ=>simp[AM.flat]at hf
 |fA τ=>simp[AM.flat]at hf
 |ptr τ=>
  simp only[A1,ER,AM.flat]at h hf ⊢
  obtain⟨b,cs,t,h1,h2,h3,h4⟩:=h
  exact⟨b,cs,t,h1,h2,hM b h3,h4.flat hf⟩
theorem RR.flat{w:World}{M M':Nat→Prop}(hM: ∀b,M b→M' b): ∀{ms:List AM} {x:HP ms} {vs ps:List Value},ms.all AM.flat=true→RR w M ms x vs ps→RR w M' ms x vs ps
 |[],_,_,_,_,h=>h
 |m::ms,x,vs,ps,hf,h=>by
  simp only[aw8,atW]at hf
  simp only[RR]at h ⊢
  rcases h with⟨p,AX,h1,h2,h3,h4⟩|⟨v,DY,h1,h2,h3,h4,h5⟩
  ·exact .inl ⟨p,AX,h1,h2,h3.flat hM hf.1,RR.flat hM hf.2 h4⟩
  ·exact .inr ⟨v,DY,h1,h2,h3,h4.flat hM hf.1,RR.flat hM hf.2 h5⟩
theorem A1.rj{w w':World}{M M':Nat→Prop}(k:dh w M w' M'){m:AM}{x:m.den}{v:Value}(hm: ∀b∈cy m v,w'.heap[b]? =w.heap[b]? ∧M' b)(h:A1 w M m x v):A1 w' M' m x v:=by
 cases m with
 |v τ=>exact V.bp k h
 |own e=>
  simp only[A1]at h ⊢
  exact ER.bp k (fun _ b hb=>hm b (by simp[cy,hb])) h
 |io τ=>
  simp only[A1]at h ⊢
  exact ER.bp k (fun _ b hb=>hm b (by simp[cy,hb])) h
 |fn f τ=>exact VR.bp k (.refl _ _) h
 |fA τ=>exact VR.bp k (.refl _ _) h
 |ptr τ=>
  simp only[A1]at h ⊢
  exact ER.bp k (fun _ b hb=>hm b (by simp[cy,hb])) h
theorem fY.rj{w w':World}{M M':Nat→Prop}(k:dh w M w' M'): ∀{ms:List AM} {x:HP ms} {vs:List Value},(∀b∈cG ms vs,w'.heap[b]? =w.heap[b]? ∧M' b)→fY w M ms x vs→fY w' M' ms x vs
 |[],_,_,_,h=>h
 |m::ms,x,vs,hm,h=>by
  simp only[fY]at h ⊢
  obtain⟨v,DY,rfl,h1,h2⟩:=h
  exact⟨v,DY,rfl,h1.rj k (fun b hb=>hm b (by simp[cG,hb])),fY.rj k (fun b hb=>hm b (by simp[cG,hb])) h2⟩
theorem RR.rj{w w':World}{M M':Nat→Prop}(k:dh w M w' M'): ∀{ms:List AM} {x:HP ms} {us ps:List Value},(∀b∈a8 ms us ps,w'.heap[b]? =w.heap[b]? ∧M' b)→RR w M ms x us ps→RR w' M' ms x us ps
 |[],_,_,_,_,h=>h
 |m::ms,x,us,ps,hm,h=>by
  simp only[RR]at h ⊢
  rcases h with⟨p,AX,h1,rfl,h2,h3⟩|⟨v,CI,h1,h2,rfl,h3,h4⟩
  ·simp only[a8,h1,av8,avP,avW,atU]at hm
   exact .inl ⟨p,AX,h1,rfl,h2.rj k (fun b hb=>hm b (.inl hb)),RR.rj k (fun b hb=>hm b (.inr hb)) h3⟩
  ·simp only[a8,h1,auA,avq,avP,avW,atU]at hm
   exact .inr ⟨v,CI,h1,h2,rfl,h3.rj k (fun b hb=>hm b (.inl hb)),RR.rj k (fun b hb=>hm b (.inr hb)) h4⟩
theorem yc{H:Nat→Option aR}(hm:Mem c H w M ν){a:aW}{v:Value}(hv:VR w M H ν a v){τ:Ty}{k:τ.den→List Nat→fD→Option α}{r:α}(h:iF true a H τ k=some r):
  ∃y rd ups,k y rd ups=some r∧((ups=[]∧V w M τ v y)∨ ∃id e l,ups=[(id,some (.kF e l))]∧H id=some (.own e l)∧
   ∀M',(∀b,M' b↔(M b∧eA (ν id)≠some b))→V w M' τ v y):=by
 unfold iF at h
 split at h
 ·obtain⟨e,h⟩:=aY h
  subst e
  simp only[VR]at hv
  exact⟨_,[],[],h,.inl ⟨rfl,hv⟩⟩
 ·obtain⟨e,h⟩:=aY h
  subst e
  simp only[VR]at hv
  exact⟨_,[],[],h,.inl ⟨rfl,hv.1⟩⟩
 ·split at h
  ·rename_i e k' _
   simp only[VR]at hv
   obtain⟨a,rfl⟩:=hv
   refine⟨[],[],[],h,.inl ⟨rfl,V.slice.2 ?_⟩⟩
   simp only[Rd]
   exact⟨a,0,rfl,atP _,fun i hi=>absurd hi (by simp)⟩
  ·cases h
 ·rename_i id
  simp only[VR]at hv
  obtain⟨_,rfl⟩:=hv
  split at h
  ·rename_i e l aT
   obtain⟨e',h⟩:=aY h
   subst e'
   refine⟨_,_,_,h,.inr ⟨id,e,l,rfl,aT,fun M' hM'=> ?_⟩⟩
   obtain⟨M2,_,hV,CB⟩:=Tr.freeze hm aT
   have:M'=M2:=by funext b;exact propext ((hM' b).trans (CB b).symm)
   rw[this];exact hV
  ·rename_i e l aT
   obtain⟨e',h⟩:=aY h
   subst e'
   have:=hm.iT id _ aT
   simp only[ER]at this
   exact⟨_,_,_,h,.inl ⟨rfl,V.slice.2 this.1⟩⟩
  ·cases h
 ·cases h
theorem NC{H:Nat→Option aR}(hm:Mem c H w M ν): ∀{a:Ty} {x:aW} {v:Value} {k:a.den→List Nat→fD→Option α} {r:α},VR w M H ν x v→wq x H a k=some r→
  ∃y rd ups,k y rd ups=some r∧(ups=[]→VR w M (fun _=>none) (fun _=>undef) (wu a y) v):=by
 intro a x v k r hv h
 unfold wq at h
 split at h
 ·rename_i a k
  split at h
  ·rename_i υ z
   obtain⟨e1,h⟩:=aY h
   subst e1
   refine⟨_,_,_,h,fun _=> ?_⟩
   simp only[wu,VR]at hv ⊢
   exact hv
  ·cases h
 ·rename_i k0 qR
  obtain⟨y,rd,ups,h,hy⟩:=yc hm hv h
  refine⟨y,rd,ups,h,fun hu=> ?_⟩
  rcases hy with⟨_,hy⟩|⟨_,_,_,h3,_⟩
  ·have:wu _ y= .val _ y:=by
    unfold wu
    split
    ·exact(qR _ _ rfl HEq.rfl).elim
    ·rfl
   rw[this]
   simp only[VR];exact hy
  ·rw[hu]at h3;cases h3
theorem yL{H:Nat→Option aR}(hm:Mem c H w M ν): ∀{τ:Ty} {lY:List aW} {vs:List Value} {k:τ.den→List Nat→fD→Option α} {r:α},fN w M H ν lY vs→mN H τ lY k=some r→
  ∃x rd ups,k x rd ups=some r∧(ups=[]→fN w M (fun _=>none) (fun _=>undef) (lR τ x) vs)
 | .unit,[],[],k,r,_,h=>⟨(),[],[],h,fun _=>by simp[lR,fN]⟩
 | .pair a b,x::xs,v::vs,k,r,hv,h=>by
  simp only[fN]at hv
  unfold mN at h
  obtain⟨y,rd,ups,h,hy⟩:=NC hm hv.1 h
  obtain⟨ys,vA,jZ,h,hys⟩:=yL hm hv.2 h
  refine⟨(y,ys),_,_,h,fun hu=> ?_⟩
  have h1:ups=[]:=(awS.1 hu).1
  have h2:jZ=[]:=(awS.1 hu).2
  simp only[lR,fN]
  exact⟨hy h1,hys h2⟩
 | .unit,[],_::_,_,_,hv,_=>by simp[fN]at hv
 |_,_::_,[],_,_,hv,_=>by simp[fN]at hv
 | .unit,_::_,_,_,_,_,h=>by simp[mN]at h
 | .pair _ _,[],_,_,_,_,h=>by simp[mN]at h
 | .int _,_,_,_,_,_,h| .bool,_,_,_,_,_,h| .str,_,_,_,_,_,h| .slice _,_,_,_,_,_,h| .arr _ _,_,_,_,_,_,h=>by simp[mN]at h
end VM
end
section
namespace VM
open Go
variable{P:Program}{E:Env}{o:Oper}{a:Act}{w:World}{M:Nat→Prop}{ν:Nat→Value}{σ:St}{c:Ctx}{α:Type}{r:α}{next:Act→World→Prop}{Q:Exit→Act→World→Prop}
def keys{β:Type}(l:List (Nat×β)):List Nat:=l.map (·.1)
theorem jy{i:Nat}: ∀{ups:fD} {H:Nat→Option aR},i∉keys ups→bU H ups i=H i
 |[],_,_=>rfl
 |u::r,H,h=>by
  simp only[keys,at7,atZ,not_or]at h
  show bU (bo H u.1 u.2) r i=_
  rw[jy h.2,al _ _ h.1]
theorem uD(u:Nat×Option aR)(b:fD)(hb:u.1∉keys b): ∀(a:fD) (H:Nat→Option aR),bU H (a++u::b)=bo (bU H (a++b)) u.1 u.2
 |[],H=>by
  show bU (bo H u.1 u.2) b=bo (bU H b) u.1 u.2
  induction b generalizing H with
  |nil=>rfl
  |cons v b ih=>
   simp only[keys,at7,atZ,not_or]at hb
   show bU (bo (bo H u.1 u.2) v.1 v.2) b=bo (bU (bo H v.1 v.2) b) u.1 u.2
   rw[←ih hb.2]
   congr 1
   funext i
   by_cases h1:i=v.1
   ·subst h1;rw[ak,al _ _ (avr hb.1),ak]
   ·by_cases h2:i=u.1
    ·subst h2;rw[al _ _ h1,ak,ak]
    ·rw[al _ _ h1,al _ _ h2,al _ _ h2,al _ _ h1]
 |v::a,H=>uD u b hb a (bo H v.1 v.2)
structure ij(c:Ctx)(w:World)(M:Nat→Prop)(ν:Nat→Value)(H0 H1 Hq:Nat→Option aR)(M1:Nat→Prop)(uo uf:fD)(io:List (Nat×Ty))(hs:List Nat):Prop where
 mem:Mem c H1 w M1 ν
 K9:Mem c Hq w M ν
 bp:dh w M w M1
 ext: ∀i,i∉keys io→bU H0 (uo++uf) i=H1 i
 Ro: ∀i,i∉keys io→bU H0 uo i=Hq i
 QO: ∀q∈io,H1 q.1=some .gone∧Hq q.1=some .gone∧ ∃x,H0 q.1=some (.obj q.2 x)
 ion:(keys io).Nodup
 ks: ∀i∈keys (uo++uf),∀e l,H1 i≠some (.own e l)
 ksn: ∀i∈keys (uo++uf),i∉keys io∧ ∃e l,H0 i=some (.own e l)
 fz:Fz Hq H1
 uov: ∀u∈uo,u.2=some .gone
 ufv: ∀u∈uf,∃e l,u.2=some (.kF e l)∧H0 u.1=some (.own e l)
 nd:hs.Nodup
 hM: ∀b∈hs,M1 b
 Ij: ∀b∈hs,c.B≤b∨c.may b
 none: ∀b∈hs,∀i e,Hq i=some e→e.mut→eA (ν i)≠some b
 iob: ∀b∈hs,c.M0 b→ ∃q∈io,eA (ν q.1)=some b
 same: ∀i,i∉keys (uo++uf)→i∉keys io→H1 i=H0 i
theorem ij.start{H:Nat→Option aR}(hm:Mem c H w M ν):ij c w M ν H H H M [] [] [] []:=
 ⟨hm,hm,.refl w M,fun _ _=>rfl,fun _ _=>rfl,fun q hq=>by simp at hq,by simp[keys],fun i hi=>by simp[keys]at hi,fun i hi=>by simp[keys]at hi,.refl H,fun u hu=>by simp at hu,fun u hu=>by simp at hu,by simp,fun b hb=>by simp at hb,fun b hb=>by simp at hb,fun b hb=>by simp at hb,fun b hb=>by simp at hb,fun _ _ _=>rfl⟩
theorem Fz.YP{H H1:Nat→Option aR}(h:Fz H H1){i:Nat}{e:Ty}{l:List e.den}(hi:H1 i=some (.own e l)):H i=some (.own e l):=by
 rcases h i with h'|⟨e',l',_,h'⟩
 ·rw[←h',hi]
 ·rw[hi]at h';cases h'
theorem Fz.adT{H H1:Nat→Option aR}(h:Fz H H1){i:Nat}{e:Ty}{l:e.den}(hi:H1 i=some (.obj e l)):H i=some (.obj e l):=by
 rcases h i with h'|⟨e',l',_,h'⟩
 ·rw[←h',hi]
 ·rw[hi]at h';cases h'
theorem Fz.mut{H H1:Nat→Option aR}(h:Fz H H1){i:Nat}{e:aR}(hi:H1 i=some e)(hm:e.mut):H i=some e:=by
 cases e with
 |obj=>exact h.adT hi
 |dY=>
  rcases h i with h'|⟨e',l',_,h'⟩
  ·rw[←h',hi]
  ·rw[hi]at h';cases h'
 |own=>exact h.YP hi
 |kF=>simp[aR.mut]at hm
 |gone=>simp[aR.mut]at hm
theorem ij.freeze{H0 H1 Hq:Nat→Option aR}{M1:Nat→Prop}{uo uf:fD}{io:List (Nat×Ty)}{hs:List Nat}(h:ij c w M ν H0 H1 Hq M1 uo uf io hs){id:Nat}{e:Ty}{l:List e.den}(aT:H1 id=some (.own e l)):
  ∃M2,ij c w M ν H0 (bo H1 id (some (.kF e l))) Hq M2 uo ((id,some (.kF e l))::uf) io hs∧dh w M1 w M2∧(∀b,M2 b↔(M1 b∧eA (ν id)≠some b)):=by
 obtain⟨M2,eY,_,CB⟩:=Tr.freeze h.mem aT
 have sd:id∉keys io:=fun hk=>by
  obtain⟨q,hq,rfl⟩:=auy.1 hk
  have:=(h.QO q hq).1
  rw[aT]at this;cases this
 have Rp:id∉keys (uo++uf):=fun hk=>h.ks id hk e l aT
 have YQ:id∉keys uf:=fun hk=>Rp (by simp only[keys,aus,atU];exact .inr hk)
 have h0:H0 id=some (.own e l):=by rw[←h.same id Rp sd];exact aT
 have hq:Hq id=some (.own e l):=h.fz.YP aT
 have jv: ∀i,i∈keys (uo++(id,some (aR.kF e l))::uf)↔i=id∨i∈keys (uo++uf):=by
  intro i
  simp only[keys,aus,at7,atU,atZ]
  constructor
  ·rintro(h|h|h)
   ·exact .inr (.inl h)
   ·exact .inl h
   ·exact .inr (.inr h)
  ·rintro(h|h|h)
   ·exact .inr (.inl h)
   ·exact .inl h
   ·exact .inr (.inr h)
 refine⟨M2,⟨eY.mem,h.K9,h.bp.trans eY.bp,fun i hi=> ?_,h.Ro,fun q tq=> ?_,h.ion,fun i hi e' l'=> ?_,fun i hi=> ?_,fun i=> ?_,h.uov,fun u hu=> ?_,h.nd,fun b hb=> ?_,h.Ij,h.none,h.iob,fun i hi kQ=> ?_⟩,eY.bp,CB⟩
 ·rw[uD _ _ YQ]
  by_cases br:i=id
  ·subst br;rw[ak,ak]
  ·rw[al _ _ br,al _ _ br];exact h.ext i hi
 ·obtain⟨h1,h2,h3⟩:=h.QO q tq
  have ib:q.1≠id:=fun e=>sd (e▸auC tq)
  exact⟨by rw[al _ _ ib];exact h1,h2,h3⟩
 ·by_cases br:i=id
  ·subst br;rw[ak];intro h';cases h'
  ·rw[al _ _ br]
   exact h.ks i (((jv i).1 hi).resolve_left br) e' l'
 ·rcases(jv i).1 hi with rfl|hi
  ·exact⟨sd,e,l,h0⟩
  ·exact h.ksn i hi
 ·by_cases br:i=id
  ·subst br;exact .inr ⟨e,l,hq,ak _ _ _⟩
  ·rw[al _ _ br];exact h.fz i
 ·rcases atZ.1 hu with rfl|hu
  ·exact⟨e,l,rfl,h0⟩
  ·exact h.ufv u hu
 ·exact(CB b).2 ⟨h.hM b hb,fun dx=>h.none b hb id _ hq trivial dx⟩
 ·have ib:i≠id:=fun e=>hi ((jv i).2 (.inl e))
  rw[al _ _ ib]
  exact h.same i (fun h'=>hi ((jv i).2 (.inr h'))) kQ
theorem ij.hand{H0 H1 Hq:Nat→Option aR}{M1:Nat→Prop}{uo uf:fD}{io:List (Nat×Ty)}{hs:List Nat}(h:ij c w M ν H0 H1 Hq M1 uo uf io hs){id:Nat}{e:Ty}{l:List e.den}(aT:H1 id=some (.own e l)):
  ij c w M ν H0 (bo H1 id (some .gone)) (bo Hq id (some .gone)) M1 ((id,some .gone)::uo) uf io (hs++(eA (ν id)).toList):=by
 have sd:id∉keys io:=fun hk=>by
  obtain⟨q,hq,rfl⟩:=auy.1 hk
  have:=(h.QO q hq).1
  rw[aT]at this;cases this
 have Rp:id∉keys (uo++uf):=fun hk=>h.ks id hk e l aT
 have YQ:id∉keys uo:=fun hk=>Rp (by simp only[keys,aus,atU];exact .inl hk)
 have h0:H0 id=some (.own e l):=by rw[←h.same id Rp sd];exact aT
 have hq:Hq id=some (.own e l):=h.fz.YP aT
 have jv: ∀i,i∈keys ((id,some aR.gone)::uo++uf)↔i=id∨i∈keys (uo++uf):=by
  intro i
  simp only[keys,aus,at7,au6,atU,atZ]
 have xt: ∀b,eA (ν id)=some b→b∉hs:=fun b hb dx=>h.none b dx id _ hq trivial hb
 refine⟨(Tr.gone h.mem id).mem,(Tr.gone h.K9 id).mem,h.bp,fun i hi=> ?_,fun i hi=> ?_,fun q tq=> ?_,h.ion,fun i hi e' l'=> ?_,fun i hi=> ?_,fun i=> ?_,fun u hu=> ?_,h.ufv,?_,fun b hb=> ?_,fun b hb=> ?_,fun b hb i e' hi hm=> ?_,fun b hb hb0=> ?_,fun i hi kQ=> ?_⟩
 ·have:=uD (id,some .gone) (uo++uf) Rp [] H0
  simp only[aug]at this
  rw[au6,this]
  by_cases br:i=id
  ·subst br;rw[ak,ak]
  ·rw[al _ _ br,al _ _ br];exact h.ext i hi
 ·have:=uD (id,some .gone) uo YQ [] H0
  simp only[aug]at this
  rw[this]
  by_cases br:i=id
  ·subst br;rw[ak,ak]
  ·rw[al _ _ br,al _ _ br];exact h.Ro i hi
 ·obtain⟨h1,h2,h3⟩:=h.QO q tq
  have ib:q.1≠id:=fun e=>sd (e▸auC tq)
  exact⟨by rw[al _ _ ib];exact h1,by rw[al _ _ ib];exact h2,h3⟩
 ·by_cases br:i=id
  ·subst br;rw[ak];intro h';cases h'
  ·rw[al _ _ br]
   exact h.ks i (((jv i).1 hi).resolve_left br) e' l'
 ·rcases(jv i).1 hi with rfl|hi
  ·exact⟨sd,e,l,h0⟩
  ·exact h.ksn i hi
 ·by_cases br:i=id
  ·subst br;left;rw[ak,ak]
  ·rw[al _ _ br,al _ _ br];exact h.fz i
 ·rcases atZ.1 hu with rfl|hu
  ·rfl
  ·exact h.uov u hu
 ·refine avy.2 ⟨h.nd,?_,fun x hx y hy=> ?_⟩
  ·cases eA (ν id)<;>simp
  ·rw[auB]at hy
   intro hxy;subst hxy
   exact xt x hy hx
 ·rcases atU.1 hb with hb|hb
  ·exact h.hM b hb
  ·rw[auB]at hb
   exact(h.mem.iT id _ aT).tg trivial hb
 ·rcases atU.1 hb with hb|hb
  ·exact h.Ij b hb
  ·rw[auB]at hb
   exact h.mem.new id _ b aT trivial hb
 ·by_cases br:i=id
  ·subst br;rw[ak]at hi;cases hi;simp[aR.mut]at hm
  ·rw[al _ _ br]at hi
   rcases atU.1 hb with hb|hb
   ·exact h.none b hb i e' hi hm
   ·rw[auB]at hb
    intro dx
    exact h.K9.vy i id e' _ b br hi hm hq trivial dx hb
 ·rcases atU.1 hb with hb|hb
  ·exact h.iob b hb hb0
  ·rw[auB]at hb
   exact absurd hb0 (h.mem.tY id e l b aT hb)
 ·have ib:i≠id:=fun e=>hi ((jv i).2 (.inl e))
  rw[al _ _ ib]
  exact h.same i (fun h'=>hi ((jv i).2 (.inr h'))) kQ
theorem ij.YR{H0 H1 Hq:Nat→Option aR}{M1:Nat→Prop}{uo uf:fD}{io:List (Nat×Ty)}{hs:List Nat}(h:ij c w M ν H0 H1 Hq M1 uo uf io hs){id:Nat}{τ:Ty}{x:τ.den}(aT:H1 id=some (.obj τ x)):
  ij c w M ν H0 (bo H1 id (some .gone)) (bo Hq id (some .gone)) M1 uo uf (io++[(id,τ)]) (hs++(eA (ν id)).toList):=by
 have sd:id∉keys io:=fun hk=>by
  obtain⟨q,hq,rfl⟩:=auy.1 hk
  have:=(h.QO q hq).1
  rw[aT]at this;cases this
 have hq:Hq id=some (.obj τ x):=h.fz.adT aT
 have Rp:id∉keys (uo++uf):=fun hk=>by
  have h1:=h.ext id sd
  obtain⟨_,e,l,h0⟩:=h.ksn id hk
  have key: ∀(ups:fD) (H:Nat→Option aR),(∀u∈ups,u.2=some .gone∨ ∃e l,u.2=some (.kF e l))→id∈keys ups→bU H ups id=some .gone∨ ∃e l,bU H ups id=some (.kF e l):=by
   intro ups
   induction ups with
   |nil=>intro H _ hk;simp[keys]at hk
   |cons u ups ih=>
    intro H hv hk
    by_cases QP:id∈keys ups
    ·exact ih _ (fun v Nt=>hv v (atM _ Nt)) QP
    ·show bU (bo H u.1 u.2) ups id=_∨ ∃e l,bU (bo H u.1 u.2) ups id=_
     rw[jy QP]
     have hui:id=u.1:=by
      simp only[keys,at7,atZ]at hk QP
      exact hk.resolve_right QP
     rw[hui,ak]
     exact hv u atS
  have:=key (uo++uf) H0 (fun u hu=>by
   rcases atU.1 hu with hu|hu
   ·exact .inl (h.uov u hu)
   ·obtain⟨e,l,h',_⟩:=h.ufv u hu;exact .inr ⟨e,l,h'⟩) hk
  rw[h1,aT]at this
  rcases this with h'|⟨_,_,h'⟩<;>cases h'
 have h0:H0 id=some (.obj τ x):=by rw[←h.same id Rp sd];exact aT
 have jv: ∀i,i∈keys (io++[(id,τ)])↔i∈keys io∨i=id:=by
  intro i
  simp only[keys,aus,at7,avl,atU,atZ,List.not_mem_nil,or_false]
 have xt: ∀b,eA (ν id)=some b→b∉hs:=fun b hb dx=>h.none b dx id _ hq trivial hb
 refine⟨(Tr.gone h.mem id).mem,(Tr.gone h.K9 id).mem,h.bp,fun i hi=> ?_,fun i hi=> ?_,fun q tq=> ?_,?_,fun i hi e' l'=> ?_,fun i hi=> ?_,fun i=> ?_,h.uov,h.ufv,?_,fun b hb=> ?_,fun b hb=> ?_,fun b hb i e' hi hm=> ?_,fun b hb hb0=> ?_,fun i hi kQ=> ?_⟩
 ·rw[al _ _ (fun e=>hi ((jv i).2 (.inr e)))];exact h.ext i (fun h'=>hi ((jv i).2 (.inl h')))
 ·rw[al _ _ (fun e=>hi ((jv i).2 (.inr e)))];exact h.Ro i (fun h'=>hi ((jv i).2 (.inl h')))
 ·rcases atU.1 tq with tq|tq
  ·obtain⟨h1,h2,h3⟩:=h.QO q tq
   have ib:q.1≠id:=fun e=>sd (e▸auC tq)
   exact⟨by rw[al _ _ ib];exact h1,by rw[al _ _ ib];exact h2,h3⟩
  ·rw[at2]at tq;subst tq
   exact⟨ak _ _ _,ak _ _ _,x,h0⟩
 ·simp only[keys,aus,at7,avl]
  refine avy.2 ⟨h.ion,by simp,fun x hx y hy=> ?_⟩
  rw[at2]at hy;subst hy
  intro e;exact sd (e▸hx)
 ·by_cases br:i=id
  ·subst br;rw[ak];intro h';cases h'
  ·rw[al _ _ br];exact h.ks i hi e' l'
 ·obtain⟨h1,h2⟩:=h.ksn i hi
  exact⟨fun h'=>((jv i).1 h').elim h1 (fun e=>Rp (e▸hi)),h2⟩
 ·by_cases br:i=id
  ·subst br;left;rw[ak,ak]
  ·rw[al _ _ br,al _ _ br];exact h.fz i
 ·refine avy.2 ⟨h.nd,?_,fun x hx y hy=> ?_⟩
  ·cases eA (ν id)<;>simp
  ·rw[auB]at hy
   intro hxy;subst hxy
   exact xt x hy hx
 ·rcases atU.1 hb with hb|hb
  ·exact h.hM b hb
  ·rw[auB]at hb
   exact(h.mem.iT id _ aT).tg trivial hb
 ·rcases atU.1 hb with hb|hb
  ·exact h.Ij b hb
  ·rw[auB]at hb
   exact h.mem.new id _ b aT trivial hb
 ·by_cases br:i=id
  ·subst br;rw[ak]at hi;cases hi;simp[aR.mut]at hm
  ·rw[al _ _ br]at hi
   rcases atU.1 hb with hb|hb
   ·exact h.none b hb i e' hi hm
   ·rw[auB]at hb
    intro dx
    exact h.K9.vy i id e' _ b br hi hm hq trivial dx hb
 ·rcases atU.1 hb with hb|hb
  ·obtain⟨q,hq1,YA⟩:=h.iob b hb hb0
   exact⟨q,at5 _ hq1,YA⟩
  ·rw[auB]at hb
   exact⟨(id,τ),by simp,hb⟩
 ·have ib:i≠id:=fun e=>kQ ((jv i).2 (.inr e))
  rw[al _ _ ib]
  exact h.same i hi (fun h'=>kQ ((jv i).2 (.inl h')))
end VM
end
section
namespace VM
open Go
variable{P:Program}{E:Env}{o:Oper}{a:Act}{w:World}{M:Nat→Prop}{ν:Nat→Value}{σ:St}{c:Ctx}{α:Type}{r:α}{next:Act→World→Prop}{Q:Exit→Act→World→Prop}
theorem oJ.YS{H:Nat→Option aR}{id:Nat}{e e':aR}(aT:H id=some e)(hl:e.ic e'):oJ H ν (bo H id (some e')) ν:=
 ⟨fun i e1 hi=>by
  by_cases br:i=id
  ·subst br;rw[aT]at hi;cases hi;exact⟨e',ak _ _ _,hl⟩
  ·exact⟨e1,by rw[al _ _ br];exact hi,.refl e1⟩,fun _ _=>rfl⟩
theorem aR.kb(e:aR):e.ic .gone:=by cases e<;>simp[aR.ic]
theorem VR.adV{H H':Nat→Option aR}{ν':Nat→Value}{a:Ty}{x:a.den}{v:Value}(h:VR w M H ν (wu a x) v):VR w M H' ν' (wu a x) v:=by
 unfold wu at h ⊢
 split at h
 ·simp only[VR]at h ⊢;exact h
 ·simp only[VR]at h ⊢;exact h
theorem fN.free{H H':Nat→Option aR}{ν':Nat→Value}: ∀{τ:Ty} {x:τ.den} {vs:List Value},fN w M H ν (lR τ x) vs→fN w M H' ν' (lR τ x) vs
 | .pair a b,x,v::vs,h=>by
  simp only[lR,fN]at h ⊢
  exact⟨VR.adV h.1,fN.free h.2⟩
 | .pair a b,x,[],h=>by simp[lR,fN]at h
 | .int _,_,[],_| .bool,_,[],_| .str,_,[],_| .slice _,_,[],_| .unit,_,[],_| .arr _ _,_,[],_=>by simp[lR,fN]
 | .int _,_,_::_,h| .bool,_,_::_,h| .str,_,_::_,h| .slice _,_,_::_,h| .unit,_,_::_,h| .arr _ _,_,_::_,h=>by simp[lR,fN]at h
theorem wG{H0 H1 Hq:Nat→Option aR}{M1:Nat→Prop}{uo uf:fD}{io:List (Nat×Ty)}{hs:List Nat}(h:ij c w M ν H0 H1 Hq M1 uo uf io hs){m:AM}{x:aW}{v:Value}(hv:VR w M1 H1 ν x v)
  {k:m.den→(Nat→Option aR)→List Nat→fD→fD→List (Nat×Ty)→Option α} (hk:kO m x H1 k=some r):
  ∃y H2 rd DT DU AA M4 M2,k y H2 rd DT DU AA=some r∧ij c w M ν H0 H2 M4 M2 (DT++uo) (DU++uf) (io++AA) (hs++cy m v)∧dh w M1 w M2∧oJ H1 ν H2 ν∧A1 w M2 m y v∧
   AA.map (fun q=>ν q.1)=(if m.fO then [v]else [])∧AA.map (·.2)=kT [m]:=by
 unfold kO at hk
 split at hk
 ·
  rename_i τ k
  obtain⟨y,rd,ups,hk,hy⟩:=yc h.mem hv hk
  rcases hy with⟨rfl,hV⟩|⟨id,e,l,rfl,aT,hV⟩
  ·exact⟨y,H1,rd,[],[],[],Hq,M1,hk,by simpa [cy]using h,.refl w M1,.refl H1 ν,hV,rfl,rfl⟩
  ·obtain⟨M2,hA,hK,CB⟩:=h.freeze aT
   exact⟨y,_,rd,[],_,[],Hq,M2,hk,by simpa [cy]using hA,hK,.YS aT ⟨rfl,rfl⟩,hV M2 CB,rfl,rfl⟩
 ·
  rename_i e k
  split at hk
  ·obtain⟨ad,hv⟩:=VR.emp.1 hv
   subst hv
   have hb:eA (.slice ad 0 0)=none:=by cases ad<;>simp[eA]
   exact⟨[],H1,[],[],[],[],Hq,M1,hk,by simpa [cy,hb]using h,.refl w M1,.refl H1 ν,by simp only[A1,ER];exact .inl ⟨trivial,ad,rfl⟩,rfl,rfl⟩
  ·rename_i id
   split at hk
   ·rename_i e' l aT
    obtain⟨e1,hk⟩:=aY hk
    cases e1
    simp only[VR]at hv
    obtain⟨_,rfl⟩:=hv
    refine⟨_,_,_,_,_,_,_,M1,hk,by simpa [cy]using h.hand aT,.refl w M1,.YS aT (aR.kb _),?_,rfl,rfl⟩
    have:=h.mem.iT id _ aT
    exact this
   ·cases hk
  ·cases hk
 ·
  rename_i τ k
  split at hk
  ·rename_i id
   split at hk
   ·rename_i υ z aT
    obtain⟨e1,hk⟩:=aY hk
    subst e1
    simp only[VR]at hv
    obtain⟨e,he,jO⟩:=hv
    rw[aT]at he;cases he
    simp only[AR]at jO
    obtain⟨_,b,hb,hv⟩:=jO
    have ND:v=ν id:=by rw[hv,hb];rfl
    subst ND
    refine⟨_,_,_,_,_,_,_,M1,hk,by simpa [cy]using h.YR aT,.refl w M1,.YS aT (aR.kb _),?_,rfl,rfl⟩
    have:=h.mem.iT id _ aT
    exact this
   ·cases hk
  ·cases hk
 ·
  rename_i f τ k
  split at hk
  ·rename_i f' cs
   obtain⟨hf,YT⟩:=bB hk
   clear hk
   have hf:=auj hf
   subst hf
   have hk:=YT
   clear YT
   simp only[VR]at hv
   obtain⟨us,rfl,Rg⟩:=hv
   obtain⟨y,rd,ups,hk,hy⟩:=yL h.mem Rg hk
   split at hk
   ·exact⟨y,H1,rd,[],[],[],Hq,M1,hk,by simpa [cy]using h,.refl w M1,.refl H1 ν,by simp only[A1,VR];exact⟨us,rfl,hy rfl⟩,rfl,rfl⟩
   ·cases hk
  ·cases hk
 ·cases hk
 ·
  rename_i τ k
  split at hk
  ·rename_i υ z
   obtain⟨e1,hk⟩:=aY hk
   subst e1
   exact⟨_,H1,_,[],[],[],Hq,M1,hk,by simpa [cy]using h,.refl w M1,.refl H1 ν,by simp only[A1,VR]at hv ⊢;exact hv,rfl,rfl⟩
  ·cases hk
theorem wH{H0:Nat→Option aR}: ∀{ms:List AM} {lY:List aW} {vs:List Value} {H1 Hq:Nat→Option aR} {M1:Nat→Prop} {rd:List Nat} {uo uf:fD} {io:List (Nat×Ty)} {hs:List Nat} {K:HP ms→List Nat→fD→fD→List (Nat×Ty)→Option α},
  ij c w M ν H0 H1 Hq M1 uo uf io hs→fN w M1 H1 ν lY vs→oZ ms lY H1 rd uo uf io K=some r→
  ∃x vA DT DU AA H2 M4 M2,K x vA DT DU AA=some r∧ij c w M ν H0 H2 M4 M2 DT DU AA (hs++cG ms vs)∧dh w M1 w M2∧fY w M2 ms x vs∧
   AA.map (fun q=>ν q.1)=io.map (fun q=>ν q.1)++du ms vs∧AA.map (·.2)=io.map (·.2)++kT ms
 |[],[],[],H1,Hq,M1,rd,uo,uf,io,hs,K,h,_,hk=>
  ⟨(),rd,uo,uf,io,H1,Hq,M1,hk,by simpa [cG]using h,.refl w M1,rfl,by simp[du],by simp[kT]⟩
 |[m],[x],[v],H1,Hq,M1,rd,uo,uf,io,hs,K,h,hv,hk=>by
  simp only[fN,au3]at hv
  obtain⟨y,H2,YG,uo1,uf1,io1,M4,M2,hk,hA,hK,hG,hy,Rq,M5⟩:=wG h hv (hk:kO m x H1 _=some r)
  refine⟨y,_,_,_,_,H2,M4,M2,hk,by simpa [cG]using hA,hK,⟨v,[],rfl,hy,rfl⟩,?_,?_⟩
  ·rw[aus,Rq];cases sd:m.fO<;>simp[du,sd]
  ·rw[aus,M5]
 |m::n::ms,x::xs,v::vs,H1,Hq,M1,rd,uo,uf,io,hs,K,h,hv,hk=>by
  simp only[fN]at hv
  obtain⟨y,H2,YG,uo1,uf1,io1,M4,M2,hk,hA,hK,hG,hy,Rq,M5⟩:=wG h hv.1 (hk:kO m x H1 _=some r)
  obtain⟨ys,vA,DT,DU,AA,H3,Hq3,M3,hk,hA',hK',hys,hi3,hi4⟩:=wH (ms:=n::ms) hA (fN.bp hK hG hv.2) hk
  refine⟨(y,ys),_,_,_,_,H3,Hq3,M3,hk,by simpa [cG,atV]using hA',hK.trans hK',⟨v,vs,rfl,?_,hys⟩,?_,?_⟩
  ·refine A1.rj hK' (fun b hb=>⟨rfl,hA'.hM b ?_⟩) hy
   exact at5 _ (aub _ hb)
  ·rw[hi3,aus,Rq,atV]
   congr 1
   cases sd:m.fO<;>simp[du,sd]
  ·rw[hi4,aus,M5,atV]
   congr 1
   cases m<;>simp[kT]
 |[],_::_,_,_,_,_,_,_,_,_,_,_,_,_,hk=>by simp[oZ]at hk
 |[_],[],_,_,_,_,_,_,_,_,_,_,_,_,hk=>by simp[oZ]at hk
 |[_],_::_::_,_,_,_,_,_,_,_,_,_,_,_,_,hk=>by simp[oZ]at hk
 |_::_::_,[],_,_,_,_,_,_,_,_,_,_,_,_,hk=>by simp[oZ]at hk
 |_,_::_,[],_,_,_,_,_,_,_,_,_,_,hv,_=>by simp[fN]at hv
 |[],[],_::_,_,_,_,_,_,_,_,_,_,_,hv,_=>by simp[fN]at hv
 |[_],[_],_::_::_,_,_,_,_,_,_,_,_,_,_,hv,_=>by simp[fN]at hv
end VM
end
