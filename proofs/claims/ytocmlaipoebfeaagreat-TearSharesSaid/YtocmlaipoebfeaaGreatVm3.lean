/- A part of the proof of TearShares of layer 29: a machine that reads a function of the program as an equation between values. -/
import Derived.Test.YtocmlaipoebfeaaGreatVm2
import Derived.Great.FillDense
set_option linter.all false
section
namespace VM
open Go
variable{P:Program}{E:Env}{o:Oper}{a:Act}{w:World}{M:Nat→Prop}{ν:Nat→Value}{σ:St}{c:Ctx}{α:Type}{r:α}{next:Act→World→Prop}{Q:Exit→Act→World→Prop}
theorem Nm(off:Nat)(new:Array Value)(cs:Array Value)(h:off+new.size≤cs.size):
  (new.zipIdx.foldl (fun cs (x:Value×Nat)=>cs.setIfInBounds (off+x.2) x.1) cs)=(dg cs.toList off new.toList).toArray:=by
 have h1:new.zipIdx.foldl (fun cs (x:Value×Nat)=>cs.setIfInBounds (off+x.2) x.1) cs=(new.toList.zipIdx 0).foldl (fun cs (x:Value×Nat)=>cs.setIfInBounds (off+x.2) x.1) cs:=by
  rw[←Array.foldl_toList,Array.toList_zipIdx]
 rw[h1]
 obtain⟨hs,hk⟩:=Great.foldl_set off new.toList 0 cs
 apply Array.ext_getElem?
 intro k
 rw[hk k,←auS (xs:=cs)]
 have hl:new.toList.length=new.size:=aum
 have hc:cs.toList.length=cs.size:=aum
 unfold dg
 rw[axJ]
 by_cases h2:k<off
 ·rw[aui (by omega),aur,avm (by rw[auu];omega),List.getElem?_take_of_lt h2]
 ·by_cases h3:k<off+new.size
  ·rw[auh (by omega),avm (by rw[aug,auu];omega),au5 (by rw[auu];omega),auu]
   congr 1
   omega
  ·rw[aui (by omega),au5 (by rw[aug,auu];omega),aug,auu,avj]
   congr 1
   omega
theorem Bq{place:Nat→Option (Nat×Nat)}{cs:Array Value}{i:Nat}{v:Value}{rest:List (Nat×Value)}{off s:Nat}(hp:place i=some (off,s))(hs:v.cells.size=s)(h:off+s≤cs.size):
  Instr.fill place cs ((i,v)::rest)=Instr.fill place (dg cs.toList off v.cells.toList).toArray rest:=by
 have h1: ¬(decide (v.cells.size≠s)||decide (off+v.cells.size>cs.size))=true:=by simp[hs];omega
 conv=>lhs;unfold Instr.fill
 rw[hp]
 simp only
 rw[aui h1]
 congr 1
 exact Nm off v.cells cs (by omega)
theorem o9(a:Act)(ps:Array (Nat×Operand)):(ps.map fun(i,x)=>(i,a.eval x)).toList=ps.toList.map fun p=>(p.1,a.eval p.2):=by
 rw[Array.toList_map]
def PR(w:World)(M:Nat→Prop)(H:Nat→Option aQ)(ν:Nat→Value):List (Nat×aY)→List (Nat×Value)→Prop
 |[],[]=>True
 |p::ps,q::qs=>p.1=q.1∧VR w M H ν p.2 q.2∧PR w M H ν ps qs
 |_,_=>False
theorem PR.bt{w':World}{M':Nat→Prop}{H H':Nat→Option aQ}{ν':Nat→Value}(k:df w M w' M')(g:n7 H ν H' ν'): ∀{ps:List (Nat×aY)} {qs:List (Nat×Value)},PR w M H ν ps qs→PR w' M' H' ν' ps qs
 |[],[],_=>trivial
 |_::_,_::_,h=>⟨h.1,h.2.1.bt k g,PR.bt k g h.2.2⟩
 |[],_::_,h=>h.elim
 |_::_,[],h=>h.elim
theorem Core.pr(hc:Core c σ a.tmps w M ν): ∀ps:List (Nat×Operand),PR w M σ.H ν (ps.map fun p=>(p.1,σ.ρ p.2)) (ps.map fun p=>(p.1,a.eval p.2))
 |[]=>trivial
 |p::ps=>⟨rfl,hc.ev p.2,hc.pr ps⟩
theorem wx{e:Ty}{n:Nat}{H:Nat→Option aQ}: ∀(ps:List (Nat×aY)) (qs:List (Nat×Value)) (H1:Nat→Option aQ) (M:Nat→Prop) (l:List e.den) (cs:Array Value) (rd:List Nat) (ups:fj) (K:List e.den→List Nat→fj→Option α),
  Fz H H1→Mem c H1 w M ν→PR w M H1 ν ps qs→l.length=n→cs.size=n*e.size→mj w M e cs.toList l→H1=bS H ups→qz e H n ps l rd ups K=some r→
  ∃l' vi jZ M' cs',K l' vi jZ=some r∧Tr c H1 w M ν (bS H jZ) w M' ν∧Fz H (bS H jZ)∧l'.length=n∧cs'.size=n*e.size∧mj w M' e cs'.toList l'∧
   Instr.fill (fun i=>some (i*e.size,e.size)) cs qs=some cs':=by
 intro ps
 induction ps with
 |nil=>
  intro qs H1 M l cs rd ups K hz hm hp hl hs hr hH h
  cases qs with
  |cons _ _=>exact hp.elim
  |nil=>exact⟨l,rd,ups,M,cs,h,hH▸Tr.refl hm,hH▸hz,hl,hs,hr,rfl⟩
 |cons p ps ih=>
  intro qs H1 M l cs rd ups K hz hm hp hl hs hr hH h
  cases qs with
  |nil=>exact hp.elim
  |cons q qs=>
   obtain⟨h1,h2,h3⟩:=hp
   unfold qz at h
   obtain⟨hb,h⟩:=bB h
   have dz:p.1<n:=by simpa [axQ]using hb
   obtain⟨y,YQ,HY,M1,h,eO,hV,xS,_⟩:=ka hz hm h2 h
   have hlen:(q.2.cells).size=e.size:=by rw[←aum];exact hV.cells.length
   have hmul:=cQ (s:=e.size) dz
   have ss:=mj.set (hr.bt eO.bt) (by rw[hl,aum,hs];exact aul _) (i:=p.1) (by omega) hV.cells
   obtain⟨l',vi,jZ,M',cs',hK,YR,Ay,DQ,JI,dT,hf⟩:=ih qs (bS H1 HY) M1 (l.set p.1 y) (dg cs.toList (p.1*e.size) q.2.cells.toList).toArray (YQ++rd) (ups++HY) K xS eO.mem (h3.bt eO.bt eO.goes)
    (by rw[aup];exact hl) (by rw[avc,dZ (by rw[aum,aum];omega),aum,hs]) ss (by rw[dS,hH]) h
   refine⟨l',vi,jZ,M',cs',hK,eO.trans YR,Ay,DQ,JI,dT,?_⟩
   rw[Bq (off:=p.1*e.size) (s:=e.size) (by rw[h1]) hlen (by omega)]
   exact hf
theorem CC{τ:Ty}{H:Nat→Option aQ}{place:Nat→Option (Nat×Nat)}(Hv: ∀(x:τ.den) n υ y o,xc τ x n υ y o→place n=some (o,υ.size)):
  ∀(ps:List (Nat×aY)) (qs:List (Nat×Value)) (H1:Nat→Option aQ) (M:Nat→Prop) (x:τ.den) (cs:Array Value) (rd:List Nat) (ups:fj) (K:τ.den→List Nat→fj→Option α),
  Fz H H1→Mem c H1 w M ν→PR w M H1 ν ps qs→Rd w M τ cs.toList x→H1=bS H ups→o5 τ H ps x rd ups K=some r→
  ∃x' vi jZ M' cs',K x' vi jZ=some r∧Tr c H1 w M ν (bS H jZ) w M' ν∧Fz H (bS H jZ)∧Rd w M' τ cs'.toList x'∧Instr.fill place cs qs=some cs'∧
   ∀m υ,Cm τ m=some υ→(ps.all fun p=> !(Nat.beq p.1 m))=true→(cs'.toList.drop (nr τ m)).take υ.size=(cs.toList.drop (nr τ m)).take υ.size:=by
 intro ps
 induction ps with
 |nil=>
  intro qs H1 M x cs rd ups K hz hm hp hr hH h
  cases qs with
  |cons _ _=>exact hp.elim
  |nil=>exact⟨x,rd,ups,M,cs,h,hH▸Tr.refl hm,hH▸hz,hr,rfl,fun _ _ _ _=>rfl⟩
 |cons p ps ih=>
  intro qs H1 M x cs rd ups K hz hm hp hr hH h
  cases qs with
  |nil=>exact hp.elim
  |cons q qs=>
   obtain⟨h1,h2,h3⟩:=hp
   unfold o5 at h
   obtain⟨υ,y0,of,hf,h⟩:=oz h
   obtain⟨y,YQ,HY,M1,h,eO,hV,xS,_⟩:=ka hz hm h2 h
   obtain⟨υ',y',o',k',xd,gG,AN⟩:=nJ h
   obtain⟨rfl,rfl⟩:=xd.eq
   obtain⟨rfl,rfl⟩:=hf.eq
   obtain⟨e1,AP⟩:=a6 gG
   obtain⟨x',ns,_,gV⟩:=AN _ _ AP
   have hlen:(q.2.cells).size=(qm τ p.1).size:=by rw[←aum];exact hV.cells.length
   have hb:=hf.bound
   have DS:=hr.length
   rw[aum]at DS
   obtain⟨x2,vi,jZ,M',cs',hK,YR,Ay,dT,Nf,HZ⟩:=ih qs (bS H1 HY) M1 x' (dg cs.toList (nr τ p.1) q.2.cells.toList).toArray (YQ++rd) (ups++HY) K xS eO.mem (h3.bt eO.bt eO.goes)
    (gV w M1 _ _ (hr.bt eO.bt) hV.cells) (by rw[dS,hH]) ns
   refine⟨x2,vi,jZ,M',cs',hK,eO.trans YR,Ay,dT,?_,fun m υ gG kF=> ?_⟩
   ·rw[Bq (off:=nr τ p.1) (s:=(qm τ p.1).size) (by rw[←h1];exact Hv _ _ _ _ _ hf) hlen (by omega)]
    exact Nf
   ·rw[axO,aus]at kF
    rw[HZ m υ gG kF.2]
    obtain⟨y2,o2,hf2⟩:=oA gG x
    obtain⟨e3,e4⟩:=hf2.eq
    subst e3 e4
    have fL:p.1≠m:=fun e=>by have:=kF.1;rw[e,awV]at this;cases this
    have hap:=hf.apart hf2 fL
    have sr:=hf2.bound
    show((dg cs.toList (nr τ p.1) q.2.cells.toList).drop _).take _=_
    rw[Ct (by rw[aum];omega) (by rw[aum,aum];omega)]
theorem dF.places: ∀(τ:Ty) (fs:Array Field) (n off:Nat),dF P τ (.inr (fs,n,off))→
  ∃ps,(fs.toList.drop n).mapM (fun f=>(P.info? f.type).map fun i=>(f.offset,i.size))=some ps∧ ∀(x:τ.den) m υ y o,xc τ x m υ y o→ps[m]? =some (off+o,υ.size)
 | .unit,fs,n,off,h=>by
  simp only[dF]at h
  refine⟨[],?_,fun x m υ y o hf=>by cases hf⟩
  rw[au0 (by rw[aum];omega)];rfl
 | .pair t b,fs,n,off,h=>by
  simp only[dF]at h
  obtain⟨f,hf,ho,ha,hb⟩:=h
  obtain⟨ps,Hw,Nf⟩:=dF.places b fs (n+1) (off+t.size) hb
  obtain⟨i,hi,hs,_⟩:=(show gD P t f.type from ha).base
  have dz:n<fs.toList.length:=by rw[aum];exact(auU.1 hf).1
  have hfe:fs.toList[n]=f:=by rw[awy];exact(auU.1 hf).2
  refine⟨(off,t.size)::ps,?_,fun x m υ y o xd=> ?_⟩
  ·rw[au2 dz,axi,Hw,hfe,hi]
   simp[ho,hs]
  ·cases xd with
   |here=>simp
   |there _ h'=>simp[Nf _ _ _ _ _ h',awe]
 | .int _,_,_,_,h| .bool,_,_,_,h| .str,_,_,_,h| .slice _,_,_,_,h| .arr _ _,_,_,_,h=>by simp[dF]at h
theorem gD.places{τ:Ty}{t:TypeId}(h:gD P τ t)(ha:τ.isAgg=true)(hn: ∀n e,τ≠ .arr n e):
  ∃fs ps,P.underlying t=some (.struct fs)∧fs.toList.mapM (fun f=>(P.info? f.type).map fun i=>(f.offset,i.size))=some ps∧ ∀(x:τ.den) m υ y o,xc τ x m υ y o→ps[m]? =some (o,υ.size):=by
 cases τ with
 |unit=>
  simp only[gD,dF]at h
  obtain⟨_,fs,hu,hs⟩:=h
  refine⟨fs,[],hu,?_,fun x m υ y o hf=>by cases hf⟩
  have:fs.toList=[]:=avl (by rw[aum];exact hs)
  rw[this];rfl
 |pair t' b=>
  simp only[gD,dF]at h
  obtain⟨_,fs,f,hu,hf,ho,ha',hb⟩:=h
  have hg:dF P (.pair t' b) (.inr (fs,0,0)):=by
   simp only[dF]
   exact⟨f,hf,ho,ha',by simpa using hb⟩
  obtain⟨ps,Hw,Nf⟩:=dF.places _ fs 0 0 hg
  exact⟨fs,ps,hu,Hw,fun x m υ y o xd=>by simpa using Nf x m υ y o xd⟩
 |arr n e=>exact absurd rfl (hn n e)
 |int _=>simp[Ty.isAgg]at ha
 |bool=>simp[Ty.isAgg]at ha
 |str=>simp[Ty.isAgg]at ha
 |slice _=>simp[Ty.isAgg]at ha
theorem tM{ρ:Operand→Value}{t:TypeId}{ps:Array (Nat×Operand)}(ho:o.op= .build t ps){v:Value}(h:(Instr.build t (ps.map fun(i,x)=>(i,ρ x))).run P w= .ok v w):(execOp ρ o).run P w= .ok (.value v) w:=by
 simp[execOp,ho,h]
theorem tN{ρ:Operand→Value}{t:TypeId}{n:Nat}{ps:Array (Nat×Operand)}(ho:o.op= .buildSlice t n ps){v:Value}{w':World}(h:(Instr.buildSlice t n (ps.map fun(i,x)=>(i,ρ x))).run P w= .ok v w'):(execOp ρ o).run P w= .ok (.value v) w':=by
 simp[execOp,ho,h]
theorem VR.JJ{H:Nat→Option aQ}{τ:Ty}(ha:τ.isAgg=true){cs:Array Value}{x:τ.den}(h:Rd w M τ cs.toList x):VR w M H ν (.val τ x) (.agg cs):=by
 simp only[VR,V];rw[auh ha];exact⟨cs,rfl,h⟩
theorem CD(hE:EnvTy P E)(hc:Core c σ a.tmps w M ν){t:TypeId}{ps:Array (Nat×Operand)}(ho:o.op= .build t ps){K:fk α}{n:Nat}{e:Ty}(ht:E.ty t=some (.arr n e))
  (h:qz e σ.H n (partsOf σ.ρ ps) (List.replicate n e.zero) [] [] (fun l rd ups=>K (.val (.arr n e) l) rd ups)=some r) (hn:dM c σ a o w M ν K r next):o.wp P a w next Q:=by
 have hl:=hE.ty t _ ht
 obtain⟨e',hu,hle⟩:=hl.arr
 obtain⟨i,hi,hs,hz,_⟩:=hl.base
 obtain⟨ie,hie,hes,_⟩:=hle.base
 have YS:=Rd.arr.1 (Rd.zero w M (.arr n e))
 obtain⟨l',vi,jZ,M',cs',hK,eO,Ay,DQ,JI,dT,hf⟩:=wx (partsOf σ.ρ ps) (ps.toList.map fun(p:Nat×Operand)=>(p.1,a.eval p.2)) σ.H M (List.replicate n e.zero) (Ty.ca (.arr n e)).toArray [] [] _ (.refl _) hc.mem (hc.pr ps.toList)
  (by rw[aun]) (by rw[avc];exact YS.2.1) YS.2.2 rfl h
 refine aL (tM ho (run_build w t _ cs' ?_)) (hn _ _ _ _ _ _ _ hK eO (VR.JJ rfl (Rd.arr.2 ⟨DQ,by rw[aum];exact JI,dT⟩)))
 unfold Program.built
 rw[hi,hu]
 simp only[hz,hie,hes,o9]
 exact hf
theorem xl(hE:EnvTy P E)(hc:Core c σ a.tmps w M ν){t:TypeId}{ps:Array (Nat×Operand)}(ho:o.op= .build t ps){K:fk α}{τ:Ty}(ht:E.ty t=some τ)(Q3: ∀n e,τ≠ .arr n e)
  (h:cond τ.isAgg (o5 τ σ.H (partsOf σ.ρ ps) τ.zero [] [] (fun l rd ups=>K (QP E (partsOf σ.ρ ps) τ l) rd ups)) none=some r) (hn:dM c σ a o w M ν K r next):o.wp P a w next Q:=by
 obtain⟨Ec,h⟩:=bB h
 have hl:=hE.ty t _ ht
 obtain⟨fs,pl,hu,Hw,Hv⟩:=hl.places Ec Q3
 obtain⟨i,hi,hs,hz,_⟩:=hl.base
 obtain⟨l',vi,jZ,M',cs',hK,eO,Ay,dT,hf,HZ⟩:=CC (place:=(pl.toArray[·]?)) (fun x n υ y o hf=>by simpa using Hv x n υ y o hf) (partsOf σ.ρ ps) (ps.toList.map fun(p:Nat×Operand)=>(p.1,a.eval p.2)) σ.H M τ.zero τ.ca.toArray [] [] _ (.refl _) hc.mem (hc.pr ps.toList)
  (Rd.zero w M τ) rfl h
 have hvr:VR w M' (bS σ.H jZ) ν (QP E (partsOf σ.ρ ps) τ l') (.agg cs'):=by
  unfold QP
  split
  ·rename_i n e oD
   cases kF:(partsOf σ.ρ ps).all fun p=> !(Nat.beq p.1 n)
   ·exact VR.JJ Ec dT
   ·have hq:=JE oD
    show VR w M' (bS σ.H jZ) ν (.Cn τ l' n) (.agg cs')
    have hv:=VR.JJ (H:=bS σ.H jZ) (ν:=ν) Ec dT
    simp only[VR]at hv ⊢
    refine⟨hv,cs',none,rfl,?_⟩
    have hfq:Cm τ n=some (.slice e):=by
     unfold ej at hq
     split at hq
     ·rename_i a ha
      rw[ha]
      have:=auw hq
      rw[this]
     ·cases hq
    have h2:=HZ n _ hfq kF
    have h3:=Bm hq
    simp only[bC,awn]at h3
    have h4:=avH (fun l=>l[0]?) h2
    simp only[avi,avj,awn]at h4
    rw[auh (show 0<(Ty.slice e).size from Nat.one_pos),auh (show 0<(Ty.slice e).size from Nat.one_pos)]at h4
    rw[h4];exact h3
  ·exact VR.JJ Ec dT
 refine aL (tM ho (run_build w t _ cs' ?_)) (hn _ _ _ _ _ _ _ hK eO hvr)
 unfold Program.built
 rw[hi,hu]
 have hzc:(bF τ τ.ca).cells=τ.ca.toArray:=by apply av7;rw[eA]
 simp only[hz,Hw,o9,hzc]
 exact hf
theorem AQ(hE:EnvTy P E)(hc:Core c σ a.tmps w M ν){t:TypeId}{n:Nat}{ps:Array (Nat×Operand)}(ho:o.op= .buildSlice t n ps){K:fk α}{e:Ty}(ht:E.ty t=some (.slice e)){id:Nat}
  (h:cond (Nat.ble (n*(e.size+1)) 16777216) (me σ.H id (.own e []) (qz e σ.H n (partsOf σ.ρ ps) (List.replicate n e.zero) [] [] fun l rd ups=>K (.ref id) (id::rd) (ups++[(id,some (.own e l))]))) none=some r)
  (hn:dM c σ a o w M ν K r next):o.wp P a w next Q:=by
 obtain⟨hb,h⟩:=bB h
 obtain⟨aS,h⟩:=hZ h
 have hb:=aw0 hb
 rw[Nat.mul_add,Nat.mul_one]at hb
 obtain⟨e',hu,hle⟩:=(hE.ty t _ ht).slice
 obtain⟨ie,hie,hes,hz,_⟩:=hle.base
 obtain⟨l',vi,jZ,M',cs',hK,eO,Ay,DQ,JI,dT,hf⟩:=wx (partsOf σ.ρ ps) (ps.toList.map fun(p:Nat×Operand)=>(p.1,a.eval p.2)) σ.H M (List.replicate n e.zero) (madeCells (bF e e.ca).cells (n*e.size)) [] [] _ (.refl _) hc.mem (hc.pr ps.toList)
  (by rw[aun]) (size_madeCells _ _) (mj.made w M e (aul _)) rfl h
 have YF:bS σ.H jZ id=none:=Ay.none aS
 have qG:=eO.trans (Tr.row eO.mem YF e' (e:=e) (cs:=cs') (l:=l') (cap:=n) (by omega) (by simp[maxLen];omega) JI dT)
 have cw:(Instr.buildSlice t n (ps.map fun(i,x)=>(i,a.eval x))).run P w= .ok (.slice (some ⟨w.heap.size,0,none⟩) n n) (w.alloc (.cells cs' e')):=by
  by_cases h0:n*e.size=0
  ·rw[h0]at hf
   have YT:madeCells (bF e e.ca).cells 0=(Array.range 0).map fun i:Nat=>(#[]:Array Value)[i%0]! :=by simp[madeCells]
   rw[YT]at hf
   rw[←o9]at hf
   simp[Instr.buildSlice,run_underlying hu,Go.sizeOf,typeInfo,hie,hes,h0,newRow]at hf ⊢
   simp[hf]
  ·refine run_buildSlice w t e' n _ cs' ie _ hu hie hz (by rw[hes];omega) (by rw[hes];exact h0) ?_
   rw[hes,o9]
   exact hf
 refine aL (tN ho cw) (hn _ _ _ _ _ (fun b=>M' b∨b=w.heap.size) (cj ν id (.slice (some ⟨w.heap.size,0,none⟩) l'.length n)) hK ?_ ?_)
 ·rw[dS];exact qG
 ·simp only[VR]
  exact⟨by rw[dS];show bn _ id _ id≠none;rw[ak];simp,by simp[cj,DQ]⟩
end VM
end
section
namespace VM
open Go
variable{P:Program}{E:Env}{o:Oper}{a:Act}{w:World}{M:Nat→Prop}{ν:Nat→Value}{σ:St}{c:Ctx}{α:Type}{r:α}{next:Act→World→Prop}{Q:Exit→Act→World→Prop}
def Qr(o:Option Value)(d l:Int):Prop:=(o=none∧l=d)∨ ∃k,o=some (.int k l)
theorem mo(hc:Core c σ a.tmps w M ν){x:Option Operand}{d:Int}{k:Int→Option α}(h:sO (x.map σ.ρ) d k=some r): ∃l,k l=some r∧Qr (x.map a.eval) d l:=by
 cases x with
 |none=>exact⟨d,h,.inl ⟨rfl,rfl⟩⟩
 |some x=>
  obtain⟨i,n,hx,h⟩:=jn (h:qx (σ.ρ x) (fun _ x=>k x)=some r)
  have hv:=hc.ev x
  rw[hx]at hv
  exact⟨n,h,.inr ⟨i,by rw[←hv.int];rfl⟩⟩
theorem p9{s:Bool}{len cap:Nat}{lo hi mx:Option Value}{l h m:Int}(xm:Qr lo 0 l)(JK:Qr hi len h)(Nn:Qr mx cap m)(hm:mx.isNone=true∨hi.isSome=true)
  (h0:0≤l) (h1:l≤h) (h2:h≤m) (h3:m≤cap):(Instr.sliceBounds s len cap lo hi mx).run P w= .ok (l.toNat,h.toNat,m.toNat) w:=by
 have hb: ∀(k:IntKind) (i:Int) (y:Nat) cd,0≤i→i≤y→(Instr.sliceBound (.int k i) y cd).run P w= .ok i.toNat w:=by
  intro k i y cd h1 h2
  simp[Instr.sliceBound,asIntOf,h1,h2]
 have gG:((m.toNat:Nat):Int)=m:=by omega
 have hh':((h.toNat:Nat):Int)=h:=by omega
 rcases Nn with⟨rfl,rfl⟩|⟨km,rfl⟩
 ·rcases JK with⟨rfl,rfl⟩|⟨kh,rfl⟩
  ·rcases xm with⟨rfl,rfl⟩|⟨kl,rfl⟩
   ·simp[Instr.sliceBounds]
   ·simp[Instr.sliceBounds,hb kl l len _ h0 h1]
  ·rcases xm with⟨rfl,rfl⟩|⟨kl,rfl⟩
   ·simp[Instr.sliceBounds,hb kh h cap _ (by omega) h2]
   ·simp[Instr.sliceBounds,hb kh h cap _ (by omega) h2,hb kl l h.toNat _ h0 (by omega)]
 ·rcases JK with⟨rfl,rfl⟩|⟨kh,rfl⟩
  ·simp at hm
  ·rcases xm with⟨rfl,rfl⟩|⟨kl,rfl⟩
   ·simp[Instr.sliceBounds,hb km m cap _ (by omega) h3,hb kh h m.toNat _ (by omega) (by omega)]
   ·simp[Instr.sliceBounds,hb km m cap _ (by omega) h3,hb kh h m.toNat _ (by omega) (by omega),hb kl l h.toNat _ h0 (by omega)]
theorem AS{ρ:Operand→Value}{t:TypeId}{x:Operand}{lo hi mx:Option Operand}(ho:o.op= .slice t x lo hi mx){s:ByteArray}{l h:Int}(hu:P.underlying t=some .string)(hx:ρ x= .string s)
  (xm:Qr (lo.map ρ) 0 l) (JK:Qr (hi.map ρ) s.size h) (Nn:mx.isNone=true) (h0:0≤l) (h1:l≤h) (h2:h≤s.size):(execOp ρ o).run P w= .ok (.value (.string (s.extract l.toNat h.toNat))) w:=by
 have hm:mx=none:=by simpa using Nn
 subst hm
 have hb:=p9 (P:=P) (w:=w) (s:=false) xm JK (.inl ⟨rfl,rfl⟩) (.inl rfl) h0 h1 h2 (avo _)
 simp[execOp,ho,hx,Instr.sliceAt,Instr.slice,run_underlying hu,hb]
theorem pa{ρ:Operand→Value}{t e:TypeId}{x:Operand}{lo hi mx:Option Operand}(ho:o.op= .slice t x lo hi mx){τ:Ty}{ad:Option Addr}{len cap:Nat}{l h m:Int}(hu:P.underlying t=some (.slice e))(hle:gD P τ e)(hx:ρ x= .slice ad len cap)
  (xm:Qr (lo.map ρ) 0 l) (JK:Qr (hi.map ρ) len h) (Nn:Qr (mx.map ρ) cap m) (hm:(mx.map ρ).isNone=true∨(hi.map ρ).isSome=true) (h0:0≤l) (h1:l≤h) (h2:h≤m) (h3:m≤cap):
  (execOp ρ o).run P w= .ok (.value (.slice (if m.toNat=l.toNat then ad else ad.map (·.add (l.toNat*τ.size))) (h.toNat-l.toNat) (m.toNat-l.toNat))) w:=by
 have hb:=p9 (P:=P) (w:=w) (s:=true) xm JK Nn hm h0 h1 h2 h3
 simp[execOp,ho,hx,Instr.sliceAt,Instr.slice,run_underlying hu,hb,b8 hle]
theorem wy{x:Option Operand}(h:iw x=true)(a:Act): ∃k,x.map a.eval=some (.int k 0):=by
 unfold iw at h
 split at h
 ·rename_i k n
  have:n=0:=by simpa using h
  subst this
  exact⟨k,rfl⟩
 ·cases h
theorem Rd.cut{e:Ty}{ad:Option Addr}{len cap:Nat}{x:List e.den}(h:Rd w M (.slice e) [.slice ad len cap] x){l hh m:Int}(h0:0≤l)(h1:l≤hh)(h2:hh≤m)(hl:hh≤x.length):
  Rd w M (.slice e) [.slice (if m.toNat=l.toNat then ad else ad.map (·.add (l.toNat*e.size))) (hh.toNat-l.toNat) (m.toNat-l.toNat)] (List.drop l.toNat (List.take hh.toNat x)):=by
 simp only[Rd,auZ,avB]at h ⊢
 obtain⟨a',jo,hv,hc,hr⟩:=h
 cases hv
 have hlen:List.length (List.drop l.toNat (List.take hh.toNat x))=hh.toNat-l.toNat:=by rw[auP,auu];omega
 refine⟨_,_,by rw[hlen],by rw[hlen];omega,fun i hi=> ?_⟩
 rw[hlen]at hi
 obtain⟨b,off,ha,hb,hm,cs,lC,gV⟩:=hr (l.toNat+i) (by omega)
 rw[aui (by omega)]
 refine⟨b,off+l.toNat*e.size,by rw[ha];simp[Addr.add_lit],hb,hm,cs,?_,?_⟩
 ·rw[show off+l.toNat*e.size+i*e.size=off+(l.toNat+i)*e.size from by rw[au9];omega];exact lC
 ·simp only[axa,axr,List.getElem_take]at gV ⊢
  exact gV
theorem VR.emp{H:Nat→Option aQ}{v:Value}:VR w M H ν .emp v↔ ∃ad,v= .slice ad 0 0:=by simp[VR]
theorem No(hE:EnvTy P E)(hc:Core c σ a.tmps w M ν){t:TypeId}{x:Operand}{lo hi mx:Option Operand}(ho:o.op= .slice t x lo hi mx){K:fk α}{τ:Ty}(ht:E.ty t=some τ)
  (h:mg τ (lo.isNone&&iw hi&&iw mx) (σ.ρ x) (lo.map σ.ρ) (hi.map σ.ρ) (mx.map σ.ρ) σ.H K=some r) (hn:dM c σ a o w M ν K r next):o.wp P a w next Q:=by
 have tJ:=hE.ty t τ ht
 have hv:=hc.ev x
 have hz0: ∀(e:Ty) (e':TypeId) (ad:Option Addr) (len cap:Nat),P.underlying t=some (.slice e')→gD P e e'→a.eval x= .slice ad len cap→(lo.isNone&&iw hi&&iw mx)=true→
   ∃ad',(execOp a.eval o).run P w= .ok (.value (.slice ad' 0 0)) w:=by
  intro e e' ad len cap hu hle hx hz
  simp only[aus]at hz
  obtain⟨⟨h1,h2⟩,h3⟩:=hz
  have h1:lo=none:=by simpa using h1
  subst h1
  obtain⟨k2,h2⟩:=wy h2 a
  obtain⟨k3,h3⟩:=wy h3 a
  have:=pa (P:=P) (w:=w) ho hu hle hx (l:=0) (h:=0) (m:=0) (.inl ⟨rfl,rfl⟩) (.inr ⟨k2,h2⟩) (.inr ⟨k3,h3⟩) (.inr (by rw[h2];rfl)) (by omega) (by omega) (by omega) (by omega)
  exact⟨_,this⟩
 unfold mg at h
 split at h
 ·rename_i s hx
  obtain⟨hm,h⟩:=bB h
  obtain⟨l,h,xm⟩:=mo hc h
  obtain⟨hh,h,JK⟩:=mo hc h
  obtain⟨hk,h⟩:=bB h
  rw[tx]at hk
  obtain⟨h0,h1,h2,h3⟩:=auw hk
  rw[hx]at hv
  exact aL (AS ho tJ.str hv.str xm JK (by simpa using hm) h0 h1 h2) (hn _ [] [] _ _ _ _ h (.refl hc.mem) (.mkStr _))
 ·rename_i e hx
  obtain⟨e',hu,hle⟩:=tJ.slice
  rw[hx]at hv
  obtain⟨ad,hv⟩:=VR.emp.1 hv
  cases hz:(lo.isNone&&iw hi&&iw mx)
  ·rw[hz]at h
   replace h:cond (mx.map σ.ρ).isNone (sO (lo.map σ.ρ) 0 fun l=>sO (hi.map σ.ρ) 0 fun h=>cond (fD l h 0 0) (K .emp [] []) none) none=some r:=h
   obtain⟨hm,h⟩:=bB h
   obtain⟨l,h,xm⟩:=mo hc h
   obtain⟨hh,h,JK⟩:=mo hc h
   obtain⟨hk,hK⟩:=bB h
   rw[tx]at hk
   obtain⟨h0,h1,h2,h3⟩:=auw hk
   have gG:mx=none:=by simpa using hm
   subst gG
   have:=pa (P:=P) (w:=w) ho hu hle hv xm JK (.inl ⟨rfl,rfl⟩) (.inl rfl) h0 h1 (m:=0) (by omega) (by omega)
   refine aL this (hn _ [] [] _ _ _ _ hK (.refl hc.mem) (VR.emp.2 ?_))
   rw[show hh.toNat-l.toNat=0 from by omega,show(0:Int).toNat-l.toNat=0 from by omega]
   exact⟨_,rfl⟩
  ·rw[hz]at h
   obtain⟨ad',cw⟩:=hz0 e e' ad 0 0 hu hle hv hz
   exact aL cw (hn _ [] [] _ _ _ _ h (.refl hc.mem) (VR.emp.2 ⟨_,rfl⟩))
 ·rename_i e fL
  obtain⟨e',hu,hle⟩:=tJ.slice
  cases hz:(lo.isNone&&iw hi&&iw mx)
  ·rw[hz]at h
   obtain⟨y,rd,ups,M',h,eO,hV,_⟩:=ka (.refl _) hc.mem hv h
   replace h:cond ((mx.map σ.ρ).isNone||(hi.map σ.ρ).isSome) (sO (lo.map σ.ρ) 0 fun l=>sO (hi.map σ.ρ) (List.length y:Int) fun h=>sO (mx.map σ.ρ) (List.length y:Int) fun m=>
    cond (fD l h m (List.length y:Int)) (K (.val (.slice e) (List.drop l.toNat (List.take h.toNat y))) rd ups) none) none=some r:=h
   obtain⟨hm,h⟩:=bB h
   obtain⟨l,h,xm⟩:=mo hc h
   obtain⟨hh,h,JK⟩:=mo hc h
   obtain⟨m,h,Nn⟩:=mo hc h
   obtain⟨hk,h⟩:=bB h
   rw[tx]at hk
   obtain⟨h0,h1,h2,h3⟩:=auw hk
   have hr:=V.slice.1 hV
   have dT:=hr
   simp only[Rd,auZ,avB]at dT
   obtain⟨ad,cap,hx,adN,_⟩:=dT
   rw[hx]at hr
   have gG:(mx.map a.eval).isNone=true∨(hi.map a.eval).isSome=true:=by
    simp only[avM,Option.isNone_map,Option.isSome_map]at hm ⊢;exact hm
   have YU: ∃m',Qr (mx.map a.eval) cap m'∧hh≤m'∧m'≤cap:=by
    rcases Nn with⟨h9,_⟩|⟨k,h9⟩
    ·exact⟨cap,.inl ⟨h9,rfl⟩,by omega,avo _⟩
    ·exact⟨m,.inr ⟨k,h9⟩,h2,by omega⟩
   obtain⟨m',YU,h4,h5⟩:=YU
   have cw:=pa (P:=P) (w:=w) ho hu hle hx xm JK YU gG h0 h1 h4 h5
   refine aL cw (hn _ _ _ _ _ M' _ h eO ?_)
   simp only[VR]
   exact V.slice.2 (hr.cut h0 h1 h4 (by omega))
  ·rw[hz]at h
   obtain⟨y,rd,h,hS⟩:=wo hc.mem hv h
   obtain⟨ad,cap,hx,_⟩:=hS
   obtain⟨ad',cw⟩:=hz0 e e' ad _ cap hu hle hx hz
   exact aL cw (hn _ _ [] _ _ _ _ h (.refl hc.mem) (VR.emp.2 ⟨_,rfl⟩))
 ·cases h
end VM
end
section
namespace VM
open Go
variable{P:Program}{E:Env}{o:Oper}{a:Act}{w:World}{M:Nat→Prop}{ν:Nat→Value}{σ:St}{c:Ctx}{α:Type}{r:α}{next:Act→World→Prop}{Q:Exit→Act→World→Prop}
theorem nK{t ty e:TypeId}{i:TypeInfo}(ht:P.underlying t=some (.slice e))(hi:P.info? e=some i)(base:Option Addr)(n cap:Nat)(h:n≤cap)(a':Option Addr)(cp:Nat):
  (Builtin.append_ #[t,t] ty #[.slice base n cap,.slice a' 0 cp]).run P w= .ok (.slice base n cap) w:=by
 cases a'<;>cases base<;>simp[Builtin.append_,run_underlying ht,Go.sizeOf,typeInfo,hi,Builtin.lenOf,h,Builtin.firstCells,loadCells,loadCellsFrom,storeCells]
theorem En{t ty e te:TypeId}{i:TypeInfo}(ht:P.underlying t=some (.slice e))(hi:P.info? e=some i){b n cap m cp:Nat}{a':Addr}{news:List Value}{cs:Array Value}
  (hg:w.heap[b]? =some (.cells cs te (0,0))) (hs:cs.size=cap*i.size) (hl:news.length=m*i.size) (hn: ∀j u,news[j]? =some u→w.cell? (a'.add j)=some u) (h1: ∀u∈news,u.oneCell'=true) (hr:n+m≤cap):
  (Builtin.append_ #[t,t] ty #[.slice (some ⟨b,0,none⟩) n cap,.slice (some a') m cp]).run P w= .ok (.slice (some ⟨b,0,none⟩) (n+m) cap) (w.setRow b (dg cs.toList (n*i.size) news).toArray):=by
 have hf:=run_firstCells_some (P:=P) w i.size m a' m cp news hl hn
 have hm:(n+m)*i.size≤cap*i.size:=ava _ hr
 rw[au9]at hm
 have Hr:=run_storeCells_at (P:=P) b (n*i.size) te news 0 cs w hg (by omega) h1
 simp only[awn]at Hr
 simp[Builtin.append_,run_underlying ht,Go.sizeOf,typeInfo,hi,Builtin.lenOf,hr,hf,Addr.add_lit,Hr,dg]
theorem eL{args:Array Operand}{t:TypeId}{x y:Operand}{v:Value}{w':World}(ho:o.op= .call {callee:= .builtin .append,args,argTypes:= #[t,t]})(ha:args.toList=[x,y])
  (h:(Builtin.append_ #[t,t] o.type #[a.eval x,a.eval y]).run P w= .ok v w'):(execOp a.eval o).run P w= .ok (.value v) w':=by
 obtain⟨cs,hr⟩:=mi (P:=P) (ρ:=a.eval) ho (w:=w)
 rw[hr]
 have:args.map a.eval= #[a.eval x,a.eval y]:=by apply av7;simp[ha]
 rw[this]
 simp[builtin,h]
theorem yK{H:Nat→Option aQ}(hm:Mem c H w M ν){id:Nat}(aS:H id=none){t ty:TypeId}{e':TypeId}{e:Ty}(hu:P.underlying t=some (.slice e'))(hle:gD P e e')
  {xs ys:List e.den} {olds news:List Value} {base:Option Addr} {cap cp:Nat} {a':Addr} (Np:base=none→xs=[]∧cap=0)
  (xm:olds.length=xs.length*e.size) (hro:mj w M e olds xs) (ho: ∀b,base=some b→ ∀j u,olds[j]? =some u→w.cell? (b.add j)=some u)
  (Qs:news.length=ys.length*e.size) (hrn:mj w M e news ys) (hn: ∀j u,news[j]? =some u→w.cell? (a'.add j)=some u)
  (hg:cap<xs.length+ys.length) (hs:xs.length+ys.length<si):
  ∃v w' M' ν',(Builtin.append_ #[t,t] ty #[.slice base xs.length cap,.slice (some a') ys.length cp]).run P w= .ok v w'∧Tr c H w M ν (bn H id (some (.own e (xs++ys)))) w' M' ν'∧ν' id=v:=by
 obtain⟨i,hi,ou,hz,YV⟩:=hle.base
 have hzs:(bF e e.ca).cells.size=e.size:=by rw[←aum,eA,kv]
 have Xw:xs.length+ys.length≤maxLen:=by simp only[si,maxLen]at hs ⊢;omega
 have Eo:(xs.length+ys.length)*i.bytes≤140737488355328:=by
  have:(xs.length+ys.length)*i.bytes≤68719476736*2048:=axh (by simp only[si]at hs;omega) YV
  omega
 have cw: ∃jo rest,(Builtin.append_ #[t,t] ty #[.slice base xs.length cap,.slice (some a') ys.length cp]).run P w= .ok (.slice (some ⟨w.heap.size,0,none⟩) (xs.length+ys.length) jo) (w.drew.alloc (.cells (olds++news++rest).toArray e'))∧
   xs.length+ys.length≤jo∧jo≤maxLen∧rest.length=(jo-(xs.length+ys.length))*e.size:=by
  refine⟨grownCap w (xs.length+ys.length) cap e',(Builtin.zeroCells (bF e e.ca).cells (grownCap w (xs.length+ys.length) cap e'-(xs.length+ys.length))).toList,?_,grownCap_ge _ _ _ _,grownCap_le_maxLen _ _ _ _ Xw,?_⟩
  ·cases base with
   |none=>
    obtain⟨rfl,rfl⟩:=Np rfl
    have ho0:olds=[]:=avl (by rw[xm];simp)
    subst ho0
    have:=run_append_nil (P:=P) w t ty e' i _ hu hi hz a' ys.length cp news (by rw[Qs,ou]) hn (by simpa using hg) (by simp only[si]at hs;omega) (by simp at Eo;omega)
    simp only[auA,avk,auK]
    rw[this]
    congr 2
    apply avH (fun z=>Obj.cells z e' (0,0))
    apply av7;simp
   |some b=>
    have:=run_append_grow (P:=P) w t ty e' i _ hu hi hz b xs.length cap olds (by rw[xm,ou]) (ho b rfl) a' ys.length cp news (by rw[Qs,ou]) hn hg (by simp only[si]at hs;omega) (growslice_fits hg Eo)
    rw[this]
    congr 2
    apply avH (fun z=>Obj.cells z e' (0,0))
    apply av7;simp
  ·rw[aum,size_zeroCells,hzs]
 obtain⟨jo,rest,cw,AP,YW,adS⟩:=cw
 have hlen:(xs++ys).length=xs.length+ys.length:=aug
 have hd:=Tr.drew hm
 have hon:(olds++news).length=(xs++ys).length*e.size:=by rw[aug,xm,Qs,hlen,au9]
 have H4:=Tr.row hd.mem aS e' (e:=e) (cs:=(olds++news++rest).toArray) (l:=xs++ys) (cap:=jo) (by rw[hlen];exact AP) YW
  (by rw[avc,aug,hon,adS,hlen,←au9];congr 1;omega)
  (mj.more ((hro.append xm hrn).bt hd.bt) (by rw[hon];exact aul _))
 refine⟨_,_,_,_,cw,hd.trans H4,?_⟩
 rw[←hlen];simp[cj]
theorem KZ(hE:EnvTy P E)(hc:Core c σ a.tmps w M ν){args:Array Operand}{ts:Array TypeId}{t t':TypeId}{x y:Operand}(ho:o.op= .call {callee:= .builtin .append,args,argTypes:=ts})(ha:args.toList=[x,y])(hts:ts.toList=[t,t']){K:fk α}{e:Ty}
  (ht:E.ty t=some (.slice e)) {id:Nat} (h:cond (Nat.beq t t') (me σ.H id (.own e []) (D5 id e (σ.ρ x) (σ.ρ y) σ.H K)) none=some r) (hn:dM c σ a o w M ν K r next):o.wp P a w next Q:=by
 obtain⟨htt,h1⟩:=bB h
 clear h
 have htt:=auN htt
 subst htt
 obtain⟨aS,h⟩:=hZ h1
 clear h1
 have ajo:ts= #[t,t]:=by apply av7;simpa using hts
 subst ajo
 obtain⟨e',hu,hle⟩:=(hE.ty t _ ht).slice
 obtain⟨i,hi,ou,hz,YV⟩:=hle.base
 have CB:=hc.ev x
 unfold D5 at h
 obtain⟨ys,rd,h,hS⟩:=wo hc.mem (hc.ev y) h
 have YX:(ys=[]∧ ∃a' cp,a.eval y= .slice a' 0 cp)∨(ys≠[]∧ ∃a' cp news,a.eval y= .slice (some a') ys.length cp∧news.length=ys.length*e.size∧(∀j u,news[j]? =some u→w.cell? (a'.add j)=some u)∧mj w M e news ys∧ ∀u∈news,u.oneCell'=true):=by
  by_cases hy:ys=[]
  ·left
   obtain⟨a',cp,hv,_⟩:=hS
   exact⟨hy,a',cp,by rw[hv,hy];rfl⟩
  ·right
   obtain⟨b,off,cp,news,hv,hl,lC,gV,h1⟩:=hS.cells hy
   exact⟨hy,⟨b,off,none⟩,cp,news,hv,hl,fun j u hj=>by rw[Addr.add_lit];exact lC j u hj,gV,h1⟩
 split at h
 ·
  rename_i hx
  rw[hx]at CB
  obtain⟨ad,CB⟩:=VR.emp.1 CB
  obtain⟨Qt,h⟩:=bB h
  rw[yu]at Qt
  have Qt:=auw Qt
  rcases YX with⟨rfl,a',cp,xi⟩|⟨hy,a',cp,news,xi,hl,lC,gV,h1⟩
  ·refine aL (eL ho ha (by rw[CB,xi];exact nK hu hi ad 0 0 (aul _) a' cp)) (hn _ _ _ _ _ _ _ h (Tr.nothing hc.mem aS e ad) ?_)
   simp only[VR]
   exact⟨by show bn _ id _ id≠none;rw[ak];simp,by simp[cj]⟩
  ·have yL:0<ys.length:=avC.2 hy
   obtain⟨v,w',M',ν',cw,eO,hv⟩:=yK (P:=P) (ty:=o.type) hc.mem aS hu hle (xs:=[]) (ys:=ys) (olds:=[]) (news:=news) (base:=ad) (cap:=0) (cp:=cp) (a':=a') (fun _=>⟨rfl,rfl⟩) (by simp) (fun i hi=>absurd hi (by simp)) (fun _ _ j u hj=>by simp at hj)
    hl gV lC (by simpa using yL) (by simpa using Qt)
   refine aL (eL ho ha (by rw[CB,xi];exact cw)) (hn _ _ _ _ _ _ _ h eO ?_)
   simp only[VR]
   exact⟨by show bn _ id _ id≠none;rw[ak];simp,hv.symm⟩
 ·
  rename_i j hx
  rw[hx]at CB
  simp only[VR]at CB
  obtain⟨_,CB⟩:=CB
  split at h
  ·rename_i e1 l hj
   obtain⟨e2,h⟩:=a6 h
   cases e2
   obtain⟨Qt,h⟩:=bB h
   rw[yu]at Qt
   have Qt:l.length+ys.length<si:=auw Qt
   have fL:id≠j:=fun e=>by rw[e,hj]at aS;cases aS
   have kY:bn σ.H j (some .gone) id=none:=by rw[al _ _ fL];exact aS
   have Hy:=Tr.gone hc.mem j
   have ja:=hc.mem.iN j _ hj
   simp only[ER]at ja
   rcases ja with⟨rfl,ad,YY⟩|⟨b,cs,te,cap,YY,hg,hM,MJ,hl,Bk,hs,hr⟩
   ·rw[YY]at CB
    rcases YX with⟨rfl,a',cp,xi⟩|⟨hy,a',cp,news,xi,hl,lC,gV,h1⟩
    ·refine aL (eL ho ha (by rw[CB,xi];exact nK hu hi ad 0 0 (aul _) a' cp)) (hn _ _ _ _ _ _ _ h (Hy.trans (Tr.nothing Hy.mem kY e ad)) ?_)
     simp only[VR]
     exact⟨by show bn _ id _ id≠none;rw[ak];simp,by simp[cj]⟩
    ·have yL:0<ys.length:=avC.2 hy
     obtain⟨v,w',M',ν',cw,eO,hv⟩:=yK (P:=P) (ty:=o.type) Hy.mem kY hu hle (xs:=[]) (ys:=ys) (olds:=[]) (news:=news) (base:=ad) (cap:=0) (cp:=cp) (a':=a') (fun _=>⟨rfl,rfl⟩) (by simp) (fun i hi=>absurd hi (by simp)) (fun _ _ j u hj=>by simp at hj)
      hl gV lC (by simpa using yL) (by simpa using Qt)
     refine aL (eL ho ha (by rw[CB,xi];exact cw)) (hn _ _ _ _ _ _ _ h (Hy.trans eO) ?_)
     simp only[VR]
     exact⟨by show bn _ id _ id≠none;rw[ak];simp,hv.symm⟩
   ·rw[YY]at CB
    have DS:cs.toList.length=cap*e.size:=by rw[aum,hs]
    have Q4:l.length*e.size≤cap*e.size:=ava _ hl
    rcases YX with⟨rfl,a',cp,xi⟩|⟨hy,a',cp,news,xi,Qs,lC,gV,h1⟩
    ·refine aL (eL ho ha (by rw[CB,xi];exact nK hu hi _ _ cap hl a' cp)) (hn _ _ _ _ _ M (cj ν id (ν j)) h ?_ ?_)
     ·refine Tr.rename hc.mem hj aS (.inr rfl) ?_
      rw[auJ]
      exact hc.mem.iN j _ hj
     ·simp only[VR]
      exact⟨by show bn _ id _ id≠none;rw[ak];simp,by simp[cj,YY]⟩
    ·by_cases tO:l.length+ys.length≤cap
     ·have hmul:(l.length+ys.length)*e.size≤cap*e.size:=ava _ tO
      rw[au9]at hmul
      have cw:=En (P:=P) (ty:=o.type) hu hi (w:=w) (b:=b) (n:=l.length) (cap:=cap) (m:=ys.length) (cp:=cp) (a':=a') (news:=news) (cs:=cs) hg (by rw[hs,ou]) (by rw[Qs,ou]) lC h1 tO
      rw[ou]at cw
      have QV:dg cs.toList (l.length*e.size) news=(cs.toList.take (l.length*e.size)++news)++cs.toList.drop (l.length*e.size+news.length):=rfl
      have hold:mj w M e (cs.toList.take (l.length*e.size)) l:=mj.take hr (aul _)
      have htl:(cs.toList.take (l.length*e.size)).length=l.length*e.size:=by rw[auu];omega
      have Xx:mj w M e (dg cs.toList (l.length*e.size) news) (l++ys):=by
       rw[QV]
       refine mj.more (hold.append htl gV) ?_
       rw[aug,aug,htl,Qs,au9];exact aul _
      have hsl:(dg cs.toList (l.length*e.size) news).length=cap*e.size:=by rw[dZ (by omega)];exact DS
      have Q5:Tr c σ.H w M ν (bn σ.H j (some (.own e l))) (w.setRow b (dg cs.toList (l.length*e.size) news).toArray) M ν:=by
       refine Tr.write (e':= .own e l) hc.mem hj trivial trivial (.refl _) (by rw[YY];simp[ed];omega) hg fun Hp hk vn=> ?_
       simp only[ER]
       refine .inr ⟨b,_,te,cap,YY,setRow_heap w b cs _ te _ hg,vn,MJ,hl,Bk,by rw[avc];exact hsl,fun k AN=> ?_⟩
       have:=(Xx k (by rw[aug];omega)).bt hk
       rw[awG AN]at this
       exact this
      rw[vl hj]at Q5
      have qG:Tr c σ.H (w.setRow b (dg cs.toList (l.length*e.size) news).toArray) M ν (bn (bn σ.H j (some .gone)) id (some (.own e (l++ys)))) (w.setRow b (dg cs.toList (l.length*e.size) news).toArray) M (cj ν id (.slice (some ⟨b,0,none⟩) (l++ys).length cap)):=by
       refine Tr.rename Q5.mem hj aS (.inr (by rw[YY];simp[ed])) ?_
       simp only[ER]
       refine .inr ⟨b,_,te,cap,rfl,setRow_heap w b cs _ te _ hg,hM,MJ,by rw[aug];exact tO,Bk,by rw[avc];exact hsl,(Xx.bt Q5.bt)⟩
      refine aL (eL ho ha (by rw[CB,xi];exact cw)) (hn _ _ _ _ _ _ _ h (Q5.trans qG) ?_)
      simp only[VR]
      exact⟨by show bn _ id _ id≠none;rw[ak];simp,by simp[cj]⟩
     ·obtain⟨v,w',M',ν',cw,eO,hv⟩:=yK (P:=P) (ty:=o.type) Hy.mem kY hu hle (xs:=l) (ys:=ys) (olds:=cs.toList.take (l.length*e.size)) (news:=news) (base:=some ⟨b,0,none⟩) (cap:=cap) (cp:=cp) (a':=a') (fun h=>by cases h)
       (by rw[auu];omega) (mj.take hr (aul _)) (fun b' dy k u hk=>by
        cases dy
        rw[Addr.add_lit,cell_of hg]
        rw[avi]at hk
        split at hk
        ·rw[←auS];simpa using hk
        ·cases hk)
       Qs gV lC (by omega) Qt
      refine aL (eL ho ha (by rw[CB,xi];exact cw)) (hn _ _ _ _ _ _ _ h (Hy.trans eO) ?_)
      simp only[VR]
      exact⟨by show bn _ id _ id≠none;rw[ak];simp,hv.symm⟩
  ·cases h
 ·cases h
end VM
end
section
namespace VM
open Go
variable{P:Program}{E:Env}{o:Oper}{a:Act}{w:World}{M:Nat→Prop}{ν:Nat→Value}{σ:St}{c:Ctx}{α:Type}{r:α}{next:Act→World→Prop}{Q:Exit→Act→World→Prop}
def qt:{m:AM}→{ms:List AM}→HP (m::ms)→m.den
 |_,[],x=>x
 |_,_::_,x=>x.1
def u9:{m:AM}→{ms:List AM}→HP (m::ms)→HP ms
 |_,[],_=>()
 |_,_::_,x=>x.2
def AM.fF:AM→Bool
 | .io _=>true
 |_=>false
def AM.Q6:AM→Bool
 | .fn _ _| .fC _=>true
 |_=>false
def A1(w:World)(M:Nat→Prop):(m:AM)→m.den→Value→Prop
 | .v τ,x,v=>V w M τ v x
 | .own e,x,v=>ER w M v (.own e x)
 | .io τ,x,v=>ER w M v (.obj τ x)
 | .fn f τ,x,v=>VR w M (fun _=>none) (fun _=>undef) (.D1 f (lq τ x)) v
 | .ptr τ,x,v=>ER w M v (.obj τ x)
 | .fC τ,x,v=>VR w M (fun _=>none) (fun _=>undef) (.mc τ x) v
def fU(w:World)(M:Nat→Prop):(ms:List AM)→HP ms→List Value→Prop
 |[],_,vs=>vs=[]
 |_::ms,x,vs=> ∃v DT,vs=v::DT∧A1 w M _ (qt x) v∧fU w M ms (u9 x) DT
def ct:AM→Value→List Nat
 | .own _,v| .io _,v| .ptr _,v=>(ed v).toList
 |_,_=>[]
def cD:List AM→List Value→List Nat
 |m::ms,v::vs=>ct m v++cD ms vs
 |_,_=>[]
def dr:List AM→List Value→List Value
 |m::ms,v::vs=>if m.fF then v::dr ms vs else dr ms vs
 |_,_=>[]
def kG:List AM→List Ty
 | .io τ::ms=>τ::kG ms
 |_::ms=>kG ms
 |[]=>[]
def RR(w:World)(M:Nat→Prop):(ms:List AM)→HP ms→List Value→List Value→Prop
 |[],_,vs,ps=>vs=[]∧ps=[]
 |m::ms,x,vs,ps=>(∃p AT,m.fF=true∧ps=p::AT∧A1 w M m (qt x) p∧RR w M ms (u9 x) vs AT)∨
  (∃v DT,m.fF=false∧m.Q6=false∧vs=v::DT∧A1 w M m (qt x) v∧RR w M ms (u9 x) DT ps)
def a7:List AM→List Value→List Value→List Nat
 |[],_,_=>[]
 |m::ms,vs,ps=>if m.fF then ct m (ps.headD undef)++a7 ms vs ps.tail else ct m (vs.headD undef)++a7 ms vs.tail ps
def Ty.flat:Ty→Bool
 | .slice _=>false
 | .pair a b=>a.flat&&b.flat
 | .arr _ e=>e.flat
 |_=>true
def AM.flat:AM→Bool
 | .v τ| .io τ| .own τ| .ptr τ=>τ.flat
 | .fn _ _| .fC _=>false
def qJ(vs:List Value):Value:=if h:vs.length=1 then vs[0]else .tuple vs.toArray
structure Left(w:World)(M0:Nat→Prop)(hs:List Nat)(w':World)(M':Nat→Prop):Prop where
 sub: ∀b,M0 b→M' b
 yz: ∀b,M' b→b<w'.heap.size
 less: ∀b,b<w.heap.size→M' b→M0 b∨b∈hs
 frame: ∀b,b<w.heap.size→b∉hs→w'.heap[b]? =w.heap[b]?
 size:w.heap.size≤w'.heap.size
 os:w'.os=w.os
 tape:w'.tape=w.tape
 output:w'.output=w.output
def Ep(P:Program)(f:FuncId)(args:Array Value)(w:World)(R:Value→World→Prop):Prop:=
 ∀(o:Oper) (a:Act) (next:Act→World→Prop) (Q:Exit→Act→World→Prop),(∀v w',R v w'→next (a.put o.dst v) w')→o.upon P a next Q ((callFunc f args).run P w)
theorem Ep.mono{f:FuncId}{args:Array Value}{R R':Value→World→Prop}(h:Ep P f args w R)(hr: ∀v w',R v w'→R' v w'):Ep P f args w R':=
 fun o a next Q hn=>h o a next Q fun v w' hv=>hn v w' (hr v w' hv)
theorem n8{f:FuncId}{fn:Func}{args:Array Value}{R:Value→World→Prop}(hf:P.funcs[f]? =some fn)(hn:(fn.name== "runtime.NumGoroutine")=false)(hb:fn.body.isNone=false)
  (h:Calls P f args w fun e w'=> ∃v,e= .returned v∧R v w'):Ep P f args w R:=by
 intro o a next Q sG
 have hn': ¬fn.name= "runtime.NumGoroutine" :=by simpa using hn
 have dy: ¬fn.body=none:=fun e=>by rw[e]at hb;cases hb
 have:(callFunc f args).run P w= .ok (.enter f args) w:=by simp[callFunc,hf,hn',dy]
 rw[this,Oper.upon_enter]
 refine Calls.mono h ?_
 rintro e w' ⟨v,rfl,hR⟩
 exact sG v w' hR
theorem AU{f:FuncId}{args:Array Value}{R:Value→World→Prop}{v:Value}{w':World}(h:(callFunc f args).run P w= .ok (.value v) w')(hR:R v w'):Ep P f args w R:=by
 intro o a next Q sG
 rw[h,Oper.upon_value]
 exact sG v w' hR
structure eP(P:Program)(f:FuncId)(S:g9):Prop where
 quiet:S.quiet=true→S.res.all AM.flat=true
 ios:kG S.args=kG S.res
 call: ∀(M0:Nat→Prop) (w:World) (vs:List Value) (x:HP S.args) (y:HP S.res),(∀b,M0 b→b<w.heap.size)→
  fU w (fun b=>M0 b∨b∈cD S.args vs) S.args x vs→(cD S.args vs).Nodup→(∀b∈cD S.args vs,¬M0 b)→S.run x=some y→
  Ep P f vs.toArray w fun v w'=> ∃us M',v=qJ us∧RR w' M' S.res y us (dr S.args vs)∧Left w M0 (cD S.args vs) w' M'∧
   (a7 S.res us (dr S.args vs)).Nodup∧ ∀b∈a7 S.res us (dr S.args vs),¬M0 b
theorem Rd.flat{w:World}{M M':Nat→Prop}: ∀{τ:Ty} {cs:List Value} {x:τ.den},τ.flat=true→Rd w M τ cs x→Rd w M' τ cs x
 | .int _,_,_,_,h| .bool,_,_,_,h| .str,_,_,_,h| .unit,_,_,_,h=>h
 | .slice _,_,_,hf,_=>by simp[Ty.flat]at hf
 | .pair a b,_,_,hf,h=>by
  simp only[Ty.flat,aus]at hf
  simp only[Rd]at h ⊢
  obtain⟨c1,c2,rfl,h1,h2⟩:=h
  exact⟨c1,c2,rfl,h1.flat hf.1,h2.flat hf.2⟩
 | .arr n e,_,x,hf,h=>by
  simp only[Ty.flat]at hf
  simp only[Rd]at h ⊢
  obtain⟨hn,KN,hc,rfl,hr⟩:=h
  exact⟨hn,KN,hc,rfl,fun i hi ji=>(hr i hi ji).flat hf⟩
theorem A1.flat{w:World}{M M':Nat→Prop}(hM: ∀b,M b→M' b){m:AM}{x:m.den}{v:Value}(hf:m.flat=true)(h:A1 w M m x v):A1 w M' m x v:=by
 cases m with
 |v τ=>
  simp only[A1,V,AM.flat]at h hf ⊢
  split
  ·rename_i ha;rw[auh ha]at h;obtain⟨cs,h1,h⟩:=h;exact⟨cs,h1,h.flat hf⟩
  ·rename_i ha;rw[aui ha]at h;exact h.flat hf
 |own e=>
  simp only[A1,ER,AM.flat]at h hf ⊢
  rcases h with h|⟨b,cs,t,cap,h1,h2,h3,h4,h5,h6,h7,h8⟩
  ·exact .inl h
  ·exact .inr ⟨b,cs,t,cap,h1,h2,hM b h3,h4,h5,h6,h7,fun i hi=>(h8 i hi).flat hf⟩
 |io τ=>
  simp only[A1,ER,AM.flat]at h hf ⊢
  obtain⟨b,cs,t,h1,h2,h3,h4⟩:=h
  exact⟨b,cs,t,h1,h2,hM b h3,h4.flat hf⟩
 |fn f τ=>simp[AM.flat]at hf
 |fC τ=>simp[AM.flat]at hf
 |ptr τ=>
  simp only[A1,ER,AM.flat]at h hf ⊢
  obtain⟨b,cs,t,h1,h2,h3,h4⟩:=h
  exact⟨b,cs,t,h1,h2,hM b h3,h4.flat hf⟩
theorem RR.flat{w:World}{M M':Nat→Prop}(hM: ∀b,M b→M' b): ∀{ms:List AM} {x:HP ms} {vs ps:List Value},ms.all AM.flat=true→RR w M ms x vs ps→RR w M' ms x vs ps
 |[],_,_,_,_,h=>h
 |m::ms,x,vs,ps,hf,h=>by
  simp only[axO,aus]at hf
  simp only[RR]at h ⊢
  rcases h with⟨p,AT,h1,h2,h3,h4⟩|⟨v,DT,h1,h2,h3,h4,h5⟩
  ·exact .inl ⟨p,AT,h1,h2,h3.flat hM hf.1,RR.flat hM hf.2 h4⟩
  ·exact .inr ⟨v,DT,h1,h2,h3,h4.flat hM hf.1,RR.flat hM hf.2 h5⟩
theorem A1.qK{w w':World}{M M':Nat→Prop}(k:df w M w' M'){m:AM}{x:m.den}{v:Value}(hm: ∀b∈ct m v,w'.heap[b]? =w.heap[b]? ∧M' b)(h:A1 w M m x v):A1 w' M' m x v:=by
 cases m with
 |v τ=>exact V.bt k h
 |own e=>
  simp only[A1]at h ⊢
  exact ER.bt k (fun _ b hb=>hm b (by simp[ct,hb])) h
 |io τ=>
  simp only[A1]at h ⊢
  exact ER.bt k (fun _ b hb=>hm b (by simp[ct,hb])) h
 |fn f τ=>exact VR.bt k (.refl _ _) h
 |fC τ=>exact VR.bt k (.refl _ _) h
 |ptr τ=>
  simp only[A1]at h ⊢
  exact ER.bt k (fun _ b hb=>hm b (by simp[ct,hb])) h
theorem fU.qK{w w':World}{M M':Nat→Prop}(k:df w M w' M'): ∀{ms:List AM} {x:HP ms} {vs:List Value},(∀b∈cD ms vs,w'.heap[b]? =w.heap[b]? ∧M' b)→fU w M ms x vs→fU w' M' ms x vs
 |[],_,_,_,h=>h
 |m::ms,x,vs,hm,h=>by
  simp only[fU]at h ⊢
  obtain⟨v,DT,rfl,h1,h2⟩:=h
  exact⟨v,DT,rfl,h1.qK k (fun b hb=>hm b (by simp[cD,hb])),fU.qK k (fun b hb=>hm b (by simp[cD,hb])) h2⟩
theorem RR.qK{w w':World}{M M':Nat→Prop}(k:df w M w' M'): ∀{ms:List AM} {x:HP ms} {us ps:List Value},(∀b∈a7 ms us ps,w'.heap[b]? =w.heap[b]? ∧M' b)→RR w M ms x us ps→RR w' M' ms x us ps
 |[],_,_,_,_,h=>h
 |m::ms,x,us,ps,hm,h=>by
  simp only[RR]at h ⊢
  rcases h with⟨p,AT,h1,rfl,h2,h3⟩|⟨v,CE,h1,h2,rfl,h3,h4⟩
  ·simp only[a7,h1,awt,aws,awz,aut]at hm
   exact .inl ⟨p,AT,h1,rfl,h2.qK k (fun b hb=>hm b (.inl hb)),RR.qK k (fun b hb=>hm b (.inr hb)) h3⟩
  ·simp only[a7,h1,au6,avQ,aws,awz,aut]at hm
   exact .inr ⟨v,CE,h1,h2,rfl,h3.qK k (fun b hb=>hm b (.inl hb)),RR.qK k (fun b hb=>hm b (.inr hb)) h4⟩
theorem xT{H:Nat→Option aQ}(hm:Mem c H w M ν){a:aY}{v:Value}(hv:VR w M H ν a v){τ:Ty}{k:τ.den→List Nat→fj→Option α}{r:α}(h:iC true a H τ k=some r):
  ∃y rd ups,k y rd ups=some r∧((ups=[]∧V w M τ v y)∨ ∃id e l,ups=[(id,some (.kt e l))]∧H id=some (.own e l)∧
   ∀M',(∀b,M' b↔(M b∧ed (ν id)≠some b))→V w M' τ v y):=by
 unfold iC at h
 split at h
 ·obtain⟨e,h⟩:=a6 h
  subst e
  simp only[VR]at hv
  exact⟨_,[],[],h,.inl ⟨rfl,hv⟩⟩
 ·obtain⟨e,h⟩:=a6 h
  subst e
  simp only[VR]at hv
  exact⟨_,[],[],h,.inl ⟨rfl,hv.1⟩⟩
 ·split at h
  ·rename_i e k' _
   simp only[VR]at hv
   obtain⟨a,rfl⟩:=hv
   refine⟨[],[],[],h,.inl ⟨rfl,V.slice.2 ?_⟩⟩
   simp only[Rd]
   exact⟨a,0,rfl,aul _,fun i hi=>absurd hi (by simp)⟩
  ·cases h
 ·rename_i id
  simp only[VR]at hv
  obtain⟨_,rfl⟩:=hv
  split at h
  ·rename_i e l aS
   obtain⟨e',h⟩:=a6 h
   subst e'
   refine⟨_,_,_,h,.inr ⟨id,e,l,rfl,aS,fun M' hM'=> ?_⟩⟩
   obtain⟨M2,_,hV,Cx⟩:=Tr.freeze hm aS
   have:M'=M2:=by funext b;exact propext ((hM' b).trans (Cx b).symm)
   rw[this];exact hV
  ·rename_i e l aS
   obtain⟨e',h⟩:=a6 h
   subst e'
   have:=hm.iN id _ aS
   simp only[ER]at this
   exact⟨_,_,_,h,.inl ⟨rfl,V.slice.2 this.1⟩⟩
  ·cases h
 ·cases h
theorem Nq{H:Nat→Option aQ}(hm:Mem c H w M ν): ∀{a:Ty} {x:aY} {v:Value} {k:a.den→List Nat→fj→Option α} {r:α},VR w M H ν x v→wh x H a k=some r→
  ∃y rd ups,k y rd ups=some r∧(ups=[]→VR w M (fun _=>none) (fun _=>undef) (wi a y) v):=by
 intro a x v k r hv h
 unfold wh at h
 split at h
 ·rename_i a k
  split at h
  ·rename_i υ z
   obtain⟨e1,h⟩:=a6 h
   subst e1
   refine⟨_,_,_,h,fun _=> ?_⟩
   simp only[wi,VR]at hv ⊢
   exact hv
  ·cases h
 ·rename_i k0 ot
  obtain⟨y,rd,ups,h,hy⟩:=xT hm hv h
  refine⟨y,rd,ups,h,fun hu=> ?_⟩
  rcases hy with⟨_,hy⟩|⟨_,_,_,h3,_⟩
  ·have:wi _ y= .val _ y:=by
    unfold wi
    split
    ·exact(ot _ _ rfl HEq.rfl).elim
    ·rfl
   rw[this]
   simp only[VR];exact hy
  ·rw[hu]at h3;cases h3
theorem yM{H:Nat→Option aQ}(hm:Mem c H w M ν): ∀{τ:Ty} {lB:List aY} {vs:List Value} {k:τ.den→List Nat→fj→Option α} {r:α},fE w M H ν lB vs→mf H τ lB k=some r→
  ∃x rd ups,k x rd ups=some r∧(ups=[]→fE w M (fun _=>none) (fun _=>undef) (lq τ x) vs)
 | .unit,[],[],k,r,_,h=>⟨(),[],[],h,fun _=>by simp[lq,fE]⟩
 | .pair a b,x::xs,v::vs,k,r,hv,h=>by
  simp only[fE]at hv
  unfold mf at h
  obtain⟨y,rd,ups,h,hy⟩:=Nq hm hv.1 h
  obtain⟨ys,vi,jZ,h,hys⟩:=yM hm hv.2 h
  refine⟨(y,ys),_,_,h,fun hu=> ?_⟩
  have h1:ups=[]:=(axC.1 hu).1
  have h2:jZ=[]:=(axC.1 hu).2
  simp only[lq,fE]
  exact⟨hy h1,hys h2⟩
 | .unit,[],_::_,_,_,hv,_=>by simp[fE]at hv
 |_,_::_,[],_,_,hv,_=>by simp[fE]at hv
 | .unit,_::_,_,_,_,_,h=>by simp[mf]at h
 | .pair _ _,[],_,_,_,_,h=>by simp[mf]at h
 | .int _,_,_,_,_,_,h| .bool,_,_,_,_,_,h| .str,_,_,_,_,_,h| .slice _,_,_,_,_,_,h| .arr _ _,_,_,_,_,_,h=>by simp[mf]at h
end VM
end
section
namespace VM
open Go
variable{P:Program}{E:Env}{o:Oper}{a:Act}{w:World}{M:Nat→Prop}{ν:Nat→Value}{σ:St}{c:Ctx}{α:Type}{r:α}{next:Act→World→Prop}{Q:Exit→Act→World→Prop}
def keys{β:Type}(l:List (Nat×β)):List Nat:=l.map (·.1)
theorem jq{i:Nat}: ∀{ups:fj} {H:Nat→Option aQ},i∉keys ups→bS H ups i=H i
 |[],_,_=>rfl
 |u::r,H,h=>by
  simp only[keys,auI,auy,not_or]at h
  show bS (bn H u.1 u.2) r i=_
  rw[jq h.2,al _ _ h.1]
theorem tP(u:Nat×Option aQ)(b:fj)(hb:u.1∉keys b): ∀(a:fj) (H:Nat→Option aQ),bS H (a++u::b)=bn (bS H (a++b)) u.1 u.2
 |[],H=>by
  show bS (bn H u.1 u.2) b=bn (bS H b) u.1 u.2
  induction b generalizing H with
  |nil=>rfl
  |cons v b ih=>
   simp only[keys,auI,auy,not_or]at hb
   show bS (bn (bn H u.1 u.2) v.1 v.2) b=bn (bS (bn H v.1 v.2) b) u.1 u.2
   rw[←ih hb.2]
   congr 1
   funext i
   by_cases h1:i=v.1
   ·subst h1;rw[ak,al _ _ (av0 hb.1),ak]
   ·by_cases h2:i=u.1
    ·subst h2;rw[al _ _ h1,ak,ak]
    ·rw[al _ _ h1,al _ _ h2,al _ _ h2,al _ _ h1]
 |v::a,H=>tP u b hb a (bn H v.1 v.2)
structure ia(c:Ctx)(w:World)(M:Nat→Prop)(ν:Nat→Value)(H0 H1 Hq:Nat→Option aQ)(M1:Nat→Prop)(uo uf:fj)(io:List (Nat×Ty))(hs:List Nat):Prop where
 mem:Mem c H1 w M1 ν
 K0:Mem c Hq w M ν
 bt:df w M w M1
 ext: ∀i,i∉keys io→bS H0 (uo++uf) i=H1 i
 Q7: ∀i,i∉keys io→bS H0 uo i=Hq i
 Qu: ∀q∈io,H1 q.1=some .gone∧Hq q.1=some .gone∧ ∃x,H0 q.1=some (.obj q.2 x)
 ion:(keys io).Nodup
 ks: ∀i∈keys (uo++uf),∀e l,H1 i≠some (.own e l)
 ksn: ∀i∈keys (uo++uf),i∉keys io∧ ∃e l,H0 i=some (.own e l)
 fz:Fz Hq H1
 uov: ∀u∈uo,u.2=some .gone
 ufv: ∀u∈uf,∃e l,u.2=some (.kt e l)∧H0 u.1=some (.own e l)
 nd:hs.Nodup
 hM: ∀b∈hs,M1 b
 H5: ∀b∈hs,c.B≤b∨c.may b
 none: ∀b∈hs,∀i e,Hq i=some e→e.mut→ed (ν i)≠some b
 iob: ∀b∈hs,c.M0 b→ ∃q∈io,ed (ν q.1)=some b
 same: ∀i,i∉keys (uo++uf)→i∉keys io→H1 i=H0 i
theorem ia.start{H:Nat→Option aQ}(hm:Mem c H w M ν):ia c w M ν H H H M [] [] [] []:=
 ⟨hm,hm,.refl w M,fun _ _=>rfl,fun _ _=>rfl,fun q hq=>by simp at hq,by simp[keys],fun i hi=>by simp[keys]at hi,fun i hi=>by simp[keys]at hi,.refl H,fun u hu=>by simp at hu,fun u hu=>by simp at hu,by simp,fun b hb=>by simp at hb,fun b hb=>by simp at hb,fun b hb=>by simp at hb,fun b hb=>by simp at hb,fun _ _ _=>rfl⟩
theorem Fz.YZ{H H1:Nat→Option aQ}(h:Fz H H1){i:Nat}{e:Ty}{l:List e.den}(hi:H1 i=some (.own e l)):H i=some (.own e l):=by
 rcases h i with h'|⟨e',l',_,h'⟩
 ·rw[←h',hi]
 ·rw[hi]at h';cases h'
theorem Fz.adW{H H1:Nat→Option aQ}(h:Fz H H1){i:Nat}{e:Ty}{l:e.den}(hi:H1 i=some (.obj e l)):H i=some (.obj e l):=by
 rcases h i with h'|⟨e',l',_,h'⟩
 ·rw[←h',hi]
 ·rw[hi]at h';cases h'
theorem Fz.mut{H H1:Nat→Option aQ}(h:Fz H H1){i:Nat}{e:aQ}(hi:H1 i=some e)(hm:e.mut):H i=some e:=by
 cases e with
 |obj=>exact h.adW hi
 |dO=>
  rcases h i with h'|⟨e',l',_,h'⟩
  ·rw[←h',hi]
  ·rw[hi]at h';cases h'
 |own=>exact h.YZ hi
 |kt=>simp[aQ.mut]at hm
 |gone=>simp[aQ.mut]at hm
theorem ia.freeze{H0 H1 Hq:Nat→Option aQ}{M1:Nat→Prop}{uo uf:fj}{io:List (Nat×Ty)}{hs:List Nat}(h:ia c w M ν H0 H1 Hq M1 uo uf io hs){id:Nat}{e:Ty}{l:List e.den}(aS:H1 id=some (.own e l)):
  ∃M2,ia c w M ν H0 (bn H1 id (some (.kt e l))) Hq M2 uo ((id,some (.kt e l))::uf) io hs∧df w M1 w M2∧(∀b,M2 b↔(M1 b∧ed (ν id)≠some b)):=by
 obtain⟨M2,eO,_,Cx⟩:=Tr.freeze h.mem aS
 have rH:id∉keys io:=fun hk=>by
  obtain⟨q,hq,rfl⟩:=auW.1 hk
  have:=(h.Qu q hq).1
  rw[aS]at this;cases this
 have Q8:id∉keys (uo++uf):=fun hk=>h.ks id hk e l aS
 have Y0:id∉keys uf:=fun hk=>Q8 (by simp only[keys,auV,aut];exact .inr hk)
 have h0:H0 id=some (.own e l):=by rw[←h.same id Q8 rH];exact aS
 have hq:Hq id=some (.own e l):=h.fz.YZ aS
 have jQ: ∀i,i∈keys (uo++(id,some (aQ.kt e l))::uf)↔i=id∨i∈keys (uo++uf):=by
  intro i
  simp only[keys,auV,auI,aut,auy]
  constructor
  ·rintro(h|h|h)
   ·exact .inr (.inl h)
   ·exact .inl h
   ·exact .inr (.inr h)
  ·rintro(h|h|h)
   ·exact .inr (.inl h)
   ·exact .inl h
   ·exact .inr (.inr h)
 refine⟨M2,⟨eO.mem,h.K0,h.bt.trans eO.bt,fun i hi=> ?_,h.Q7,fun q qL=> ?_,h.ion,fun i hi e' l'=> ?_,fun i hi=> ?_,fun i=> ?_,h.uov,fun u hu=> ?_,h.nd,fun b hb=> ?_,h.H5,h.none,h.iob,fun i hi ji=> ?_⟩,eO.bt,Cx⟩
 ·rw[tP _ _ Y0]
  by_cases bp:i=id
  ·subst bp;rw[ak,ak]
  ·rw[al _ _ bp,al _ _ bp];exact h.ext i hi
 ·obtain⟨h1,h2,h3⟩:=h.Qu q qL
  have fL:q.1≠id:=fun e=>rH (e▸au8 qL)
  exact⟨by rw[al _ _ fL];exact h1,h2,h3⟩
 ·by_cases bp:i=id
  ·subst bp;rw[ak];intro h';cases h'
  ·rw[al _ _ bp]
   exact h.ks i (((jQ i).1 hi).resolve_left bp) e' l'
 ·rcases(jQ i).1 hi with rfl|hi
  ·exact⟨rH,e,l,h0⟩
  ·exact h.ksn i hi
 ·by_cases bp:i=id
  ·subst bp;exact .inr ⟨e,l,hq,ak _ _ _⟩
  ·rw[al _ _ bp];exact h.fz i
 ·rcases auy.1 hu with rfl|hu
  ·exact⟨e,l,rfl,h0⟩
  ·exact h.ufv u hu
 ·exact(Cx b).2 ⟨h.hM b hb,fun dy=>h.none b hb id _ hq trivial dy⟩
 ·have fL:i≠id:=fun e=>hi ((jQ i).2 (.inl e))
  rw[al _ _ fL]
  exact h.same i (fun h'=>hi ((jQ i).2 (.inr h'))) ji
theorem ia.hand{H0 H1 Hq:Nat→Option aQ}{M1:Nat→Prop}{uo uf:fj}{io:List (Nat×Ty)}{hs:List Nat}(h:ia c w M ν H0 H1 Hq M1 uo uf io hs){id:Nat}{e:Ty}{l:List e.den}(aS:H1 id=some (.own e l)):
  ia c w M ν H0 (bn H1 id (some .gone)) (bn Hq id (some .gone)) M1 ((id,some .gone)::uo) uf io (hs++(ed (ν id)).toList):=by
 have rH:id∉keys io:=fun hk=>by
  obtain⟨q,hq,rfl⟩:=auW.1 hk
  have:=(h.Qu q hq).1
  rw[aS]at this;cases this
 have Q8:id∉keys (uo++uf):=fun hk=>h.ks id hk e l aS
 have Y0:id∉keys uo:=fun hk=>Q8 (by simp only[keys,auV,aut];exact .inl hk)
 have h0:H0 id=some (.own e l):=by rw[←h.same id Q8 rH];exact aS
 have hq:Hq id=some (.own e l):=h.fz.YZ aS
 have jQ: ∀i,i∈keys ((id,some aQ.gone)::uo++uf)↔i=id∨i∈keys (uo++uf):=by
  intro i
  simp only[keys,auV,auI,avz,aut,auy]
 have xh: ∀b,ed (ν id)=some b→b∉hs:=fun b hb dy=>h.none b dy id _ hq trivial hb
 refine⟨(Tr.gone h.mem id).mem,(Tr.gone h.K0 id).mem,h.bt,fun i hi=> ?_,fun i hi=> ?_,fun q qL=> ?_,h.ion,fun i hi e' l'=> ?_,fun i hi=> ?_,fun i=> ?_,fun u hu=> ?_,h.ufv,?_,fun b hb=> ?_,fun b hb=> ?_,fun b hb i e' hi hm=> ?_,fun b hb hb0=> ?_,fun i hi ji=> ?_⟩
 ·have:=tP (id,some .gone) (uo++uf) Q8 [] H0
  simp only[auK]at this
  rw[avz,this]
  by_cases bp:i=id
  ·subst bp;rw[ak,ak]
  ·rw[al _ _ bp,al _ _ bp];exact h.ext i hi
 ·have:=tP (id,some .gone) uo Y0 [] H0
  simp only[auK]at this
  rw[this]
  by_cases bp:i=id
  ·subst bp;rw[ak,ak]
  ·rw[al _ _ bp,al _ _ bp];exact h.Q7 i hi
 ·obtain⟨h1,h2,h3⟩:=h.Qu q qL
  have fL:q.1≠id:=fun e=>rH (e▸au8 qL)
  exact⟨by rw[al _ _ fL];exact h1,by rw[al _ _ fL];exact h2,h3⟩
 ·by_cases bp:i=id
  ·subst bp;rw[ak];intro h';cases h'
  ·rw[al _ _ bp]
   exact h.ks i (((jQ i).1 hi).resolve_left bp) e' l'
 ·rcases(jQ i).1 hi with rfl|hi
  ·exact⟨rH,e,l,h0⟩
  ·exact h.ksn i hi
 ·by_cases bp:i=id
  ·subst bp;left;rw[ak,ak]
  ·rw[al _ _ bp,al _ _ bp];exact h.fz i
 ·rcases auy.1 hu with rfl|hu
  ·rfl
  ·exact h.uov u hu
 ·refine awc.2 ⟨h.nd,?_,fun x hx y hy=> ?_⟩
  ·cases ed (ν id)<;>simp
  ·rw[au7]at hy
   intro hxy;subst hxy
   exact xh x hy hx
 ·rcases aut.1 hb with hb|hb
  ·exact h.hM b hb
  ·rw[au7]at hb
   exact(h.mem.iN id _ aS).sP trivial hb
 ·rcases aut.1 hb with hb|hb
  ·exact h.H5 b hb
  ·rw[au7]at hb
   exact h.mem.new id _ b aS trivial hb
 ·by_cases bp:i=id
  ·subst bp;rw[ak]at hi;cases hi;simp[aQ.mut]at hm
  ·rw[al _ _ bp]at hi
   rcases aut.1 hb with hb|hb
   ·exact h.none b hb i e' hi hm
   ·rw[au7]at hb
    intro dy
    exact h.K0.u7 i id e' _ b bp hi hm hq trivial dy hb
 ·rcases aut.1 hb with hb|hb
  ·exact h.iob b hb hb0
  ·rw[au7]at hb
   exact absurd hb0 (h.mem.tu id e l b aS hb)
 ·have fL:i≠id:=fun e=>hi ((jQ i).2 (.inl e))
  rw[al _ _ fL]
  exact h.same i (fun h'=>hi ((jQ i).2 (.inr h'))) ji
theorem ia.Y1{H0 H1 Hq:Nat→Option aQ}{M1:Nat→Prop}{uo uf:fj}{io:List (Nat×Ty)}{hs:List Nat}(h:ia c w M ν H0 H1 Hq M1 uo uf io hs){id:Nat}{τ:Ty}{x:τ.den}(aS:H1 id=some (.obj τ x)):
  ia c w M ν H0 (bn H1 id (some .gone)) (bn Hq id (some .gone)) M1 uo uf (io++[(id,τ)]) (hs++(ed (ν id)).toList):=by
 have rH:id∉keys io:=fun hk=>by
  obtain⟨q,hq,rfl⟩:=auW.1 hk
  have:=(h.Qu q hq).1
  rw[aS]at this;cases this
 have hq:Hq id=some (.obj τ x):=h.fz.adW aS
 have Q8:id∉keys (uo++uf):=fun hk=>by
  have h1:=h.ext id rH
  obtain⟨_,e,l,h0⟩:=h.ksn id hk
  have key: ∀(ups:fj) (H:Nat→Option aQ),(∀u∈ups,u.2=some .gone∨ ∃e l,u.2=some (.kt e l))→id∈keys ups→bS H ups id=some .gone∨ ∃e l,bS H ups id=some (.kt e l):=by
   intro ups
   induction ups with
   |nil=>intro H _ hk;simp[keys]at hk
   |cons u ups ih=>
    intro H hv hk
    by_cases Qv:id∈keys ups
    ·exact ih _ (fun v Nh=>hv v (auk _ Nh)) Qv
    ·show bS (bn H u.1 u.2) ups id=_∨ ∃e l,bS (bn H u.1 u.2) ups id=_
     rw[jq Qv]
     have hui:id=u.1:=by
      simp only[keys,auI,auy]at hk Qv
      exact hk.resolve_right Qv
     rw[hui,ak]
     exact hv u auo
  have:=key (uo++uf) H0 (fun u hu=>by
   rcases aut.1 hu with hu|hu
   ·exact .inl (h.uov u hu)
   ·obtain⟨e,l,h',_⟩:=h.ufv u hu;exact .inr ⟨e,l,h'⟩) hk
  rw[h1,aS]at this
  rcases this with h'|⟨_,_,h'⟩<;>cases h'
 have h0:H0 id=some (.obj τ x):=by rw[←h.same id Q8 rH];exact aS
 have jQ: ∀i,i∈keys (io++[(id,τ)])↔i∈keys io∨i=id:=by
  intro i
  simp only[keys,auV,auI,avS,aut,auy,List.not_mem_nil,or_false]
 have xh: ∀b,ed (ν id)=some b→b∉hs:=fun b hb dy=>h.none b dy id _ hq trivial hb
 refine⟨(Tr.gone h.mem id).mem,(Tr.gone h.K0 id).mem,h.bt,fun i hi=> ?_,fun i hi=> ?_,fun q qL=> ?_,?_,fun i hi e' l'=> ?_,fun i hi=> ?_,fun i=> ?_,h.uov,h.ufv,?_,fun b hb=> ?_,fun b hb=> ?_,fun b hb i e' hi hm=> ?_,fun b hb hb0=> ?_,fun i hi ji=> ?_⟩
 ·rw[al _ _ (fun e=>hi ((jQ i).2 (.inr e)))];exact h.ext i (fun h'=>hi ((jQ i).2 (.inl h')))
 ·rw[al _ _ (fun e=>hi ((jQ i).2 (.inr e)))];exact h.Q7 i (fun h'=>hi ((jQ i).2 (.inl h')))
 ·rcases aut.1 qL with qL|qL
  ·obtain⟨h1,h2,h3⟩:=h.Qu q qL
   have fL:q.1≠id:=fun e=>rH (e▸au8 qL)
   exact⟨by rw[al _ _ fL];exact h1,by rw[al _ _ fL];exact h2,h3⟩
  ·rw[auE]at qL;subst qL
   exact⟨ak _ _ _,ak _ _ _,x,h0⟩
 ·simp only[keys,auV,auI,avS]
  refine awc.2 ⟨h.ion,by simp,fun x hx y hy=> ?_⟩
  rw[auE]at hy;subst hy
  intro e;exact rH (e▸hx)
 ·by_cases bp:i=id
  ·subst bp;rw[ak];intro h';cases h'
  ·rw[al _ _ bp];exact h.ks i hi e' l'
 ·obtain⟨h1,h2⟩:=h.ksn i hi
  exact⟨fun h'=>((jQ i).1 h').elim h1 (fun e=>Q8 (e▸hi)),h2⟩
 ·by_cases bp:i=id
  ·subst bp;left;rw[ak,ak]
  ·rw[al _ _ bp,al _ _ bp];exact h.fz i
 ·refine awc.2 ⟨h.nd,?_,fun x hx y hy=> ?_⟩
  ·cases ed (ν id)<;>simp
  ·rw[au7]at hy
   intro hxy;subst hxy
   exact xh x hy hx
 ·rcases aut.1 hb with hb|hb
  ·exact h.hM b hb
  ·rw[au7]at hb
   exact(h.mem.iN id _ aS).sP trivial hb
 ·rcases aut.1 hb with hb|hb
  ·exact h.H5 b hb
  ·rw[au7]at hb
   exact h.mem.new id _ b aS trivial hb
 ·by_cases bp:i=id
  ·subst bp;rw[ak]at hi;cases hi;simp[aQ.mut]at hm
  ·rw[al _ _ bp]at hi
   rcases aut.1 hb with hb|hb
   ·exact h.none b hb i e' hi hm
   ·rw[au7]at hb
    intro dy
    exact h.K0.u7 i id e' _ b bp hi hm hq trivial dy hb
 ·rcases aut.1 hb with hb|hb
  ·obtain⟨q,MK,hq2⟩:=h.iob b hb hb0
   exact⟨q,auz _ MK,hq2⟩
  ·rw[au7]at hb
   exact⟨(id,τ),by simp,hb⟩
 ·have fL:i≠id:=fun e=>ji ((jQ i).2 (.inr e))
  rw[al _ _ fL]
  exact h.same i hi (fun h'=>ji ((jQ i).2 (.inl h')))
end VM
end
section
namespace VM
open Go
variable{P:Program}{E:Env}{o:Oper}{a:Act}{w:World}{M:Nat→Prop}{ν:Nat→Value}{σ:St}{c:Ctx}{α:Type}{r:α}{next:Act→World→Prop}{Q:Exit→Act→World→Prop}
theorem n7.Y2{H:Nat→Option aQ}{id:Nat}{e e':aQ}(aS:H id=some e)(hl:e.hO e'):n7 H ν (bn H id (some e')) ν:=
 ⟨fun i e1 hi=>by
  by_cases bp:i=id
  ·subst bp;rw[aS]at hi;cases hi;exact⟨e',ak _ _ _,hl⟩
  ·exact⟨e1,by rw[al _ _ bp];exact hi,.refl e1⟩,fun _ _=>rfl⟩
theorem aQ.kd(e:aQ):e.hO .gone:=by cases e<;>simp[aQ.hO]
theorem VR.adY{H H':Nat→Option aQ}{ν':Nat→Value}{a:Ty}{x:a.den}{v:Value}(h:VR w M H ν (wi a x) v):VR w M H' ν' (wi a x) v:=by
 unfold wi at h ⊢
 split at h
 ·simp only[VR]at h ⊢;exact h
 ·simp only[VR]at h ⊢;exact h
theorem fE.free{H H':Nat→Option aQ}{ν':Nat→Value}: ∀{τ:Ty} {x:τ.den} {vs:List Value},fE w M H ν (lq τ x) vs→fE w M H' ν' (lq τ x) vs
 | .pair a b,x,v::vs,h=>by
  simp only[lq,fE]at h ⊢
  exact⟨VR.adY h.1,fE.free h.2⟩
 | .pair a b,x,[],h=>by simp[lq,fE]at h
 | .int _,_,[],_| .bool,_,[],_| .str,_,[],_| .slice _,_,[],_| .unit,_,[],_| .arr _ _,_,[],_=>by simp[lq,fE]
 | .int _,_,_::_,h| .bool,_,_::_,h| .str,_,_::_,h| .slice _,_,_::_,h| .unit,_,_::_,h| .arr _ _,_,_::_,h=>by simp[lq,fE]at h
theorem wz{H0 H1 Hq:Nat→Option aQ}{M1:Nat→Prop}{uo uf:fj}{io:List (Nat×Ty)}{hs:List Nat}(h:ia c w M ν H0 H1 Hq M1 uo uf io hs){m:AM}{x:aY}{v:Value}(hv:VR w M1 H1 ν x v)
  {k:m.den→(Nat→Option aQ)→List Nat→fj→fj→List (Nat×Ty)→Option α} (hk:kC m x H1 k=some r):
  ∃y H2 rd DO DP Aw ML M2,k y H2 rd DO DP Aw=some r∧ia c w M ν H0 H2 ML M2 (DO++uo) (DP++uf) (io++Aw) (hs++ct m v)∧df w M1 w M2∧n7 H1 ν H2 ν∧A1 w M2 m y v∧
   Aw.map (fun q=>ν q.1)=(if m.fF then [v]else [])∧Aw.map (·.2)=kG [m]:=by
 unfold kC at hk
 split at hk
 ·
  rename_i τ k
  obtain⟨y,rd,ups,hk,hy⟩:=xT h.mem hv hk
  rcases hy with⟨rfl,hV⟩|⟨id,e,l,rfl,aS,hV⟩
  ·exact⟨y,H1,rd,[],[],[],Hq,M1,hk,by simpa [ct]using h,.refl w M1,.refl H1 ν,hV,rfl,rfl⟩
  ·obtain⟨M2,hA,hK,Cx⟩:=h.freeze aS
   exact⟨y,_,rd,[],_,[],Hq,M2,hk,by simpa [ct]using hA,hK,.Y2 aS ⟨rfl,rfl⟩,hV M2 Cx,rfl,rfl⟩
 ·
  rename_i e k
  split at hk
  ·obtain⟨ad,hv⟩:=VR.emp.1 hv
   subst hv
   have hb:ed (.slice ad 0 0)=none:=by cases ad<;>simp[ed]
   exact⟨[],H1,[],[],[],[],Hq,M1,hk,by simpa [ct,hb]using h,.refl w M1,.refl H1 ν,by simp only[A1,ER];exact .inl ⟨trivial,ad,rfl⟩,rfl,rfl⟩
  ·rename_i id
   split at hk
   ·rename_i e' l aS
    obtain⟨e1,hk⟩:=a6 hk
    cases e1
    simp only[VR]at hv
    obtain⟨_,rfl⟩:=hv
    refine⟨_,_,_,_,_,_,_,M1,hk,by simpa [ct]using h.hand aS,.refl w M1,.Y2 aS (aQ.kd _),?_,rfl,rfl⟩
    have:=h.mem.iN id _ aS
    exact this
   ·cases hk
  ·cases hk
 ·
  rename_i τ k
  split at hk
  ·rename_i id
   split at hk
   ·rename_i υ z aS
    obtain⟨e1,hk⟩:=a6 hk
    subst e1
    simp only[VR]at hv
    obtain⟨e,he,jO⟩:=hv
    rw[aS]at he;cases he
    simp only[AR]at jO
    obtain⟨_,b,hb,hv⟩:=jO
    have Nr:v=ν id:=by rw[hv,hb];rfl
    subst Nr
    refine⟨_,_,_,_,_,_,_,M1,hk,by simpa [ct]using h.Y1 aS,.refl w M1,.Y2 aS (aQ.kd _),?_,rfl,rfl⟩
    have:=h.mem.iN id _ aS
    exact this
   ·cases hk
  ·cases hk
 ·
  rename_i f τ k
  split at hk
  ·rename_i f' cs
   obtain⟨hf,Y3⟩:=bB hk
   clear hk
   have hf:=auN hf
   subst hf
   have hk:=Y3
   clear Y3
   simp only[VR]at hv
   obtain⟨us,rfl,QX⟩:=hv
   obtain⟨y,rd,ups,hk,hy⟩:=yM h.mem QX hk
   split at hk
   ·exact⟨y,H1,rd,[],[],[],Hq,M1,hk,by simpa [ct]using h,.refl w M1,.refl H1 ν,by simp only[A1,VR];exact⟨us,rfl,hy rfl⟩,rfl,rfl⟩
   ·cases hk
  ·cases hk
 ·cases hk
 ·
  rename_i τ k
  split at hk
  ·rename_i υ z
   obtain⟨e1,hk⟩:=a6 hk
   subst e1
   exact⟨_,H1,_,[],[],[],Hq,M1,hk,by simpa [ct]using h,.refl w M1,.refl H1 ν,by simp only[A1,VR]at hv ⊢;exact hv,rfl,rfl⟩
  ·cases hk
theorem wA{H0:Nat→Option aQ}: ∀{ms:List AM} {lB:List aY} {vs:List Value} {H1 Hq:Nat→Option aQ} {M1:Nat→Prop} {rd:List Nat} {uo uf:fj} {io:List (Nat×Ty)} {hs:List Nat} {K:HP ms→List Nat→fj→fj→List (Nat×Ty)→Option α},
  ia c w M ν H0 H1 Hq M1 uo uf io hs→fE w M1 H1 ν lB vs→ox ms lB H1 rd uo uf io K=some r→
  ∃x vi DO DP Aw H2 ML M2,K x vi DO DP Aw=some r∧ia c w M ν H0 H2 ML M2 DO DP Aw (hs++cD ms vs)∧df w M1 w M2∧fU w M2 ms x vs∧
   Aw.map (fun q=>ν q.1)=io.map (fun q=>ν q.1)++dr ms vs∧Aw.map (·.2)=io.map (·.2)++kG ms
 |[],[],[],H1,Hq,M1,rd,uo,uf,io,hs,K,h,_,hk=>
  ⟨(),rd,uo,uf,io,H1,Hq,M1,hk,by simpa [cD]using h,.refl w M1,rfl,by simp[dr],by simp[kG]⟩
 |[m],[x],[v],H1,Hq,M1,rd,uo,uf,io,hs,K,h,hv,hk=>by
  simp only[fE,avB]at hv
  obtain⟨y,H2,YQ,uo1,uf1,io1,ML,M2,hk,hA,hK,hG,hy,Q9,MM⟩:=wz h hv (hk:kC m x H1 _=some r)
  refine⟨y,_,_,_,_,H2,ML,M2,hk,by simpa [cD]using hA,hK,⟨v,[],rfl,hy,rfl⟩,?_,?_⟩
  ·rw[auV,Q9];cases rH:m.fF<;>simp[dr,rH]
  ·rw[auV,MM]
 |m::n::ms,x::xs,v::vs,H1,Hq,M1,rd,uo,uf,io,hs,K,h,hv,hk=>by
  simp only[fE]at hv
  obtain⟨y,H2,YQ,uo1,uf1,io1,ML,M2,hk,hA,hK,hG,hy,Q9,MM⟩:=wz h hv.1 (hk:kC m x H1 _=some r)
  obtain⟨ys,vi,DO,DP,Aw,H3,Hq3,M3,hk,hA',hK',hys,hi3,hi4⟩:=wA (ms:=n::ms) hA (fE.bt hK hG hv.2) hk
  refine⟨(y,ys),_,_,_,_,H3,Hq3,M3,hk,by simpa [cD,aur]using hA',hK.trans hK',⟨v,vs,rfl,?_,hys⟩,?_,?_⟩
  ·refine A1.qK hK' (fun b hb=>⟨rfl,hA'.hM b ?_⟩) hy
   exact auz _ (auD _ hb)
  ·rw[hi3,auV,Q9,aur]
   congr 1
   cases rH:m.fF<;>simp[dr,rH]
  ·rw[hi4,auV,MM,aur]
   congr 1
   cases m<;>simp[kG]
 |[],_::_,_,_,_,_,_,_,_,_,_,_,_,_,hk=>by simp[ox]at hk
 |[_],[],_,_,_,_,_,_,_,_,_,_,_,_,hk=>by simp[ox]at hk
 |[_],_::_::_,_,_,_,_,_,_,_,_,_,_,_,_,hk=>by simp[ox]at hk
 |_::_::_,[],_,_,_,_,_,_,_,_,_,_,_,_,hk=>by simp[ox]at hk
 |_,_::_,[],_,_,_,_,_,_,_,_,_,_,hv,_=>by simp[fE]at hv
 |[],[],_::_,_,_,_,_,_,_,_,_,_,_,hv,_=>by simp[fE]at hv
 |[_],[_],_::_::_,_,_,_,_,_,_,_,_,_,_,hv,_=>by simp[fE]at hv
end VM
end
