/- A part of the proof of HedgeDrawn of layer 22: a machine that reads a function of the program as an equation between values. -/
import Derived.Test.YtocmlaipoebfeaaGreatVm2
import Derived.Great.FillDense
set_option linter.all false
section
namespace VM
open Go
variable{P:Program}{E:Env}{o:Oper}{a:Act}{w:World}{M:Nat→Prop}{ν:Nat→Value}{σ:St}{c:Ctx}{α:Type}{r:α}{next:Act→World→Prop}{Q:Exit→Act→World→Prop}
theorem QJ(off:Nat)(new:Array Value)(cs:Array Value)(h:off+new.size≤cs.size):
  (new.zipIdx.foldl (fun cs (x:Value×Nat)=>cs.setIfInBounds (off+x.2) x.1) cs)=(dz cs.toList off new.toList).toArray:=by
 have h1:new.zipIdx.foldl (fun cs (x:Value×Nat)=>cs.setIfInBounds (off+x.2) x.1) cs=(new.toList.zipIdx 0).foldl (fun cs (x:Value×Nat)=>cs.setIfInBounds (off+x.2) x.1) cs:=by
  rw[←Array.foldl_toList,Array.toList_zipIdx]
 rw[h1]
 obtain⟨hs,hk⟩:=Great.foldl_set off new.toList 0 cs
 apply Array.ext_getElem?
 intro k
 rw[hk k,←azh (xs:=cs)]
 have hl:new.toList.length=new.size:=ayM
 have hc:cs.toList.length=cs.size:=ayM
 unfold dz
 rw[aB5]
 by_cases h2:k<off
 ·rw[ayE (by omega),ayP,azN (by rw[ayX];omega),List.getElem?_take_of_lt h2]
 ·by_cases h3:k<off+new.size
  ·rw[ayF (by omega),azN (by rw[ayH,ayX];omega),azu (by rw[ayX];omega),ayX]
   congr 1
   omega
  ·rw[ayE (by omega),azu (by rw[ayH,ayX];omega),ayH,ayX,azK]
   congr 1
   omega
theorem Dm{place:Nat→Option (Nat×Nat)}{cs:Array Value}{i:Nat}{v:Value}{rest:List (Nat×Value)}{off s:Nat}(hp:place i=some (off,s))(hs:v.cells.size=s)(h:off+s≤cs.size):
  Instr.fill place cs ((i,v)::rest)=Instr.fill place (dz cs.toList off v.cells.toList).toArray rest:=by
 have h1: ¬(decide (v.cells.size≠s)||decide (off+v.cells.size>cs.size))=true:=by simp[hs];omega
 conv=>lhs;unfold Instr.fill
 rw[hp]
 simp only
 rw[ayE h1]
 congr 1
 exact QJ off v.cells cs (by omega)
theorem qz(a:Act)(ps:Array (Nat×Operand)):(ps.map fun(i,x)=>(i,a.eval x)).toList=ps.toList.map fun p=>(p.1,a.eval p.2):=by
 rw[Array.toList_map]
def PR(w:World)(M:Nat→Prop)(H:Nat→Option aS)(ν:Nat→Value):List (Nat×bb)→List (Nat×Value)→Prop
 |[],[]=>True
 |p::ps,q::qs=>p.1=q.1∧VR w M H ν p.2 q.2∧PR w M H ν ps qs
 |_,_=>False
theorem PR.bD{w':World}{M':Nat→Prop}{H H':Nat→Option aS}{ν':Nat→Value}(k:dy w M w' M')(g:pC H ν H' ν'): ∀{ps:List (Nat×bb)} {qs:List (Nat×Value)},PR w M H ν ps qs→PR w' M' H' ν' ps qs
 |[],[],_=>trivial
 |_::_,_::_,h=>⟨h.1,h.2.1.bD k g,PR.bD k g h.2.2⟩
 |[],_::_,h=>h.elim
 |_::_,[],h=>h.elim
theorem Core.pr(hc:Core c σ a.tmps w M ν): ∀ps:List (Nat×Operand),PR w M σ.H ν (ps.map fun p=>(p.1,σ.ρ p.2)) (ps.map fun p=>(p.1,a.eval p.2))
 |[]=>trivial
 |p::ps=>⟨rfl,hc.ev p.2,hc.pr ps⟩
theorem xS{e:Ty}{n:Nat}{H:Nat→Option aS}: ∀(ps:List (Nat×bb)) (qs:List (Nat×Value)) (H1:Nat→Option aS) (M:Nat→Prop) (l:List e.den) (cs:Array Value) (rd:List Nat) (ups:fN) (K:List e.den→List Nat→fN→Option α),
  Fz H H1→Mem c H1 w M ν→PR w M H1 ν ps qs→l.length=n→cs.size=n*e.size→nQ w M e cs.toList l→H1=ch H ups→rV e H n ps l rd ups K=some r→
  ∃l' wU kT M' cs',K l' wU kT=some r∧Tr c H1 w M ν (ch H kT) w M' ν∧Fz H (ch H kT)∧l'.length=n∧cs'.size=n*e.size∧nQ w M' e cs'.toList l'∧
   Instr.fill (fun i=>some (i*e.size,e.size)) cs qs=some cs':=by
 intro ps
 induction ps with
 |nil=>
  intro qs H1 M l cs rd ups K hz hm hp hl hs hr hH h
  cases qs with
  |cons _ _=>exact hp.elim
  |nil=>exact⟨l,rd,ups,M,cs,h,hH▸Tr.refl hm,hH▸hz,hl,hs,hr,rfl⟩
 |cons p ps ih=>
  intro qs H1 M l cs rd ups K hz hm hp hl hs hr hH h
  cases qs with
  |nil=>exact hp.elim
  |cons q qs=>
   obtain⟨h1,h2,h3⟩:=hp
   unfold rV at h
   obtain⟨hb,h⟩:=bP h
   have dH:p.1<n:=by simpa [aCa]using hb
   obtain⟨y,rd1,KW,M1,h,fg,hV,zC,_⟩:=kW hz hm h2 h
   have hlen:(q.2.cells).size=e.size:=by rw[←ayM];exact hV.cells.length
   have hmul:=c8 (s:=e.size) dH
   have tG:=nQ.set (hr.bD fg.bD) (by rw[hl,ayM,hs];exact ayJ _) (i:=p.1) (by omega) hV.cells
   obtain⟨l',wU,kT,M',cs',hK,acv,Cp,Gq,G4,dg,hf⟩:=ih qs (ch H1 KW) M1 (l.set p.1 y) (dz cs.toList (p.1*e.size) q.2.cells.toList).toArray (rd1++rd) (ups++KW) K zC fg.mem (h3.bD fg.bD fg.goes)
    (by rw[ayT];exact hl) (by rw[azA,eE (by rw[ayM,ayM];omega),ayM,hs]) tG (by rw[eu,hH]) h
   refine⟨l',wU,kT,M',cs',hK,fg.trans acv,Cp,Gq,G4,dg,?_⟩
   rw[Dm (off:=p.1*e.size) (s:=e.size) (by rw[h1]) hlen (by omega)]
   exact hf
theorem EX{τ:Ty}{H:Nat→Option aS}{place:Nat→Option (Nat×Nat)}(Ap: ∀(x:τ.den) n υ y o,yT τ x n υ y o→place n=some (o,υ.size)):
  ∀(ps:List (Nat×bb)) (qs:List (Nat×Value)) (H1:Nat→Option aS) (M:Nat→Prop) (x:τ.den) (cs:Array Value) (rd:List Nat) (ups:fN) (K:τ.den→List Nat→fN→Option α),
  Fz H H1→Mem c H1 w M ν→PR w M H1 ν ps qs→Rd w M τ cs.toList x→H1=ch H ups→qv τ H ps x rd ups K=some r→
  ∃x' wU kT M' cs',K x' wU kT=some r∧Tr c H1 w M ν (ch H kT) w M' ν∧Fz H (ch H kT)∧Rd w M' τ cs'.toList x'∧Instr.fill place cs qs=some cs'∧
   ∀m υ,EE τ m=some υ→(ps.all fun p=> !(Nat.beq p.1 m))=true→(cs'.toList.drop (oF τ m)).take υ.size=(cs.toList.drop (oF τ m)).take υ.size:=by
 intro ps
 induction ps with
 |nil=>
  intro qs H1 M x cs rd ups K hz hm hp hr hH h
  cases qs with
  |cons _ _=>exact hp.elim
  |nil=>exact⟨x,rd,ups,M,cs,h,hH▸Tr.refl hm,hH▸hz,hr,rfl,fun _ _ _ _=>rfl⟩
 |cons p ps ih=>
  intro qs H1 M x cs rd ups K hz hm hp hr hH h
  cases qs with
  |nil=>exact hp.elim
  |cons q qs=>
   obtain⟨h1,h2,h3⟩:=hp
   unfold qv at h
   obtain⟨υ,y0,of,hf,h⟩:=pP h
   obtain⟨y,rd1,KW,M1,h,fg,hV,zC,_⟩:=kW hz hm h2 h
   obtain⟨υ',y',o',k',yU,gY,Am⟩:=o0 h
   obtain⟨rfl,rfl⟩:=yU.eq
   obtain⟨rfl,rfl⟩:=hf.eq
   obtain⟨e1,CF⟩:=bg gY
   obtain⟨x',pX,_,iu⟩:=Am _ _ CF
   have hlen:(q.2.cells).size=(rL τ p.1).size:=by rw[←ayM];exact hV.cells.length
   have hb:=hf.bound
   have ES:=hr.length
   rw[ayM]at ES
   obtain⟨x2,wU,kT,M',cs',hK,acv,Cp,dg,QC,EY⟩:=ih qs (ch H1 KW) M1 x' (dz cs.toList (oF τ p.1) q.2.cells.toList).toArray (rd1++rd) (ups++KW) K zC fg.mem (h3.bD fg.bD fg.goes)
    (iu w M1 _ _ (hr.bD fg.bD) hV.cells) (by rw[eu,hH]) pX
   refine⟨x2,wU,kT,M',cs',hK,fg.trans acv,Cp,dg,?_,fun m υ gY g9=> ?_⟩
   ·rw[Dm (off:=oF τ p.1) (s:=(rL τ p.1).size) (by rw[←h1];exact Ap _ _ _ _ _ hf) hlen (by omega)]
    exact QC
   ·rw[aBt,ayQ]at g9
    rw[EY m υ gY g9.2]
    obtain⟨y2,o2,hf2⟩:=pQ gY x
    obtain⟨e3,e4⟩:=hf2.eq
    subst e3 e4
    have gq:p.1≠m:=fun e=>by have:=g9.1;rw[e,aBl]at this;cases this
    have hap:=hf.apart hf2 gq
    have tF:=hf2.bound
    show((dz cs.toList (oF τ p.1) q.2.cells.toList).drop _).take _=_
    rw[EL (by rw[ayM];omega) (by rw[ayM,ayM];omega)]
theorem dU.places: ∀(τ:Ty) (fs:Array Field) (n off:Nat),dU P τ (.inr (fs,n,off))→
  ∃ps,(fs.toList.drop n).mapM (fun f=>(P.info? f.type).map fun i=>(f.offset,i.size))=some ps∧ ∀(x:τ.den) m υ y o,yT τ x m υ y o→ps[m]? =some (off+o,υ.size)
 | .unit,fs,n,off,h=>by
  simp only[dU]at h
  refine⟨[],?_,fun x m υ y o hf=>by cases hf⟩
  rw[azr (by rw[ayM];omega)];rfl
 | .pair t b,fs,n,off,h=>by
  simp only[dU]at h
  obtain⟨f,hf,ho,ha,hb⟩:=h
  obtain⟨ps,Kt,QC⟩:=dU.places b fs (n+1) (off+t.size) hb
  obtain⟨i,hi,hs,_⟩:=(show g6 P t f.type from ha).base
  have dH:n<fs.toList.length:=by rw[ayM];exact(azj.1 hf).1
  have hfe:fs.toList[n]=f:=by rw[aA0];exact(azj.1 hf).2
  refine⟨(off,t.size)::ps,?_,fun x m υ y o yU=> ?_⟩
  ·rw[azO dH,aBC,Kt,hfe,hi]
   simp[ho,hs]
  ·cases yU with
   |here=>simp
   |there _ h'=>simp[QC _ _ _ _ _ h',aAH]
 | .int _,_,_,_,h| .bool,_,_,_,h| .str,_,_,_,h| .slice _,_,_,_,h| .arr _ _,_,_,_,h=>by simp[dU]at h
theorem g6.places{τ:Ty}{t:TypeId}(h:g6 P τ t)(ha:τ.isAgg=true)(hn: ∀n e,τ≠ .arr n e):
  ∃fs ps,P.underlying t=some (.struct fs)∧fs.toList.mapM (fun f=>(P.info? f.type).map fun i=>(f.offset,i.size))=some ps∧ ∀(x:τ.den) m υ y o,yT τ x m υ y o→ps[m]? =some (o,υ.size):=by
 cases τ with
 |unit=>
  simp only[g6,dU]at h
  obtain⟨_,fs,hu,hs⟩:=h
  refine⟨fs,[],hu,?_,fun x m υ y o hf=>by cases hf⟩
  have:fs.toList=[]:=azL (by rw[ayM];exact hs)
  rw[this];rfl
 |pair t' b=>
  simp only[g6,dU]at h
  obtain⟨_,fs,f,hu,hf,ho,ha',hb⟩:=h
  have hg:dU P (.pair t' b) (.inr (fs,0,0)):=by
   simp only[dU]
   exact⟨f,hf,ho,ha',by simpa using hb⟩
  obtain⟨ps,Kt,QC⟩:=dU.places _ fs 0 0 hg
  exact⟨fs,ps,hu,Kt,fun x m υ y o yU=>by simpa using QC x m υ y o yU⟩
 |arr n e=>exact absurd rfl (hn n e)
 |int _=>simp[Ty.isAgg]at ha
 |bool=>simp[Ty.isAgg]at ha
 |str=>simp[Ty.isAgg]at ha
 |slice _=>simp[Ty.isAgg]at ha
theorem vt{ρ:Operand→Value}{t:TypeId}{ps:Array (Nat×Operand)}(ho:o.op= .build t ps){v:Value}(h:(Instr.build t (ps.map fun(i,x)=>(i,ρ x))).run P w= .ok v w):(execOp ρ o).run P w= .ok (.value v) w:=by
 simp[execOp,ho,h]
theorem vu{ρ:Operand→Value}{t:TypeId}{n:Nat}{ps:Array (Nat×Operand)}(ho:o.op= .buildSlice t n ps){v:Value}{w':World}(h:(Instr.buildSlice t n (ps.map fun(i,x)=>(i,ρ x))).run P w= .ok v w'):(execOp ρ o).run P w= .ok (.value v) w':=by
 simp[execOp,ho,h]
theorem VR.MW{H:Nat→Option aS}{τ:Ty}(ha:τ.isAgg=true){cs:Array Value}{x:τ.den}(h:Rd w M τ cs.toList x):VR w M H ν (.val τ x) (.agg cs):=by
 simp only[VR,V];rw[ayF ha];exact⟨cs,rfl,h⟩
theorem EZ(hE:EnvTy P E)(hc:Core c σ a.tmps w M ν){t:TypeId}{ps:Array (Nat×Operand)}(ho:o.op= .build t ps){K:fO α}{n:Nat}{e:Ty}(ht:E.ty t=some (.arr n e))
  (h:rV e σ.H n (partsOf σ.ρ ps) (List.replicate n e.zero) [] [] (fun l rd ups=>K (.val (.arr n e) l) rd ups)=some r) (hn:eh c σ a o w M ν K r next):o.wp P a w next Q:=by
 have hl:=hE.ty t _ ht
 obtain⟨e',hu,hle⟩:=hl.arr
 obtain⟨i,hi,hs,hz,_⟩:=hl.base
 obtain⟨ie,hie,hes,_⟩:=hle.base
 have hr0:=Rd.arr.1 (Rd.zero w M (.arr n e))
 obtain⟨l',wU,kT,M',cs',hK,fg,Cp,Gq,G4,dg,hf⟩:=xS (partsOf σ.ρ ps) (ps.toList.map fun(p:Nat×Operand)=>(p.1,a.eval p.2)) σ.H M (List.replicate n e.zero) (Ty.cy (.arr n e)).toArray [] [] _ (.refl _) hc.mem (hc.pr ps.toList)
  (by rw[ayS]) (by rw[azA];exact hr0.2.1) hr0.2.2 rfl h
 refine aN (vt ho (run_build w t _ cs' ?_)) (hn _ _ _ _ _ _ _ hK fg (VR.MW rfl (Rd.arr.2 ⟨Gq,by rw[ayM];exact G4,dg⟩)))
 unfold Program.built
 rw[hi,hu]
 simp only[hz,hie,hes,qz]
 exact hf
theorem y5(hE:EnvTy P E)(hc:Core c σ a.tmps w M ν){t:TypeId}{ps:Array (Nat×Operand)}(ho:o.op= .build t ps){K:fO α}{τ:Ty}(ht:E.ty t=some τ)(hna: ∀n e,τ≠ .arr n e)
  (h:cond τ.isAgg (qv τ σ.H (partsOf σ.ρ ps) τ.zero [] [] (fun l rd ups=>K (Ur E (partsOf σ.ρ ps) τ l) rd ups)) none=some r) (hn:eh c σ a o w M ν K r next):o.wp P a w next Q:=by
 obtain⟨GP,h⟩:=bP h
 have hl:=hE.ty t _ ht
 obtain⟨fs,pl,hu,Kt,Ap⟩:=hl.places GP hna
 obtain⟨i,hi,hs,hz,_⟩:=hl.base
 obtain⟨l',wU,kT,M',cs',hK,fg,Cp,dg,hf,EY⟩:=EX (place:=(pl.toArray[·]?)) (fun x n υ y o hf=>by simpa using Ap x n υ y o hf) (partsOf σ.ρ ps) (ps.toList.map fun(p:Nat×Operand)=>(p.1,a.eval p.2)) σ.H M τ.zero τ.cy.toArray [] [] _ (.refl _) hc.mem (hc.pr ps.toList)
  (Rd.zero w M τ) rfl h
 have hvr:VR w M' (ch σ.H kT) ν (Ur E (partsOf σ.ρ ps) τ l') (.agg cs'):=by
  unfold Ur
  split
  ·rename_i n e pT
   cases g9:(partsOf σ.ρ ps).all fun p=> !(Nat.beq p.1 n)
   ·exact VR.MW GP dg
   ·have hq:=MR pT
    show VR w M' (ch σ.H kT) ν (.EF τ l' n) (.agg cs')
    have hv:=VR.MW (H:=ch σ.H kT) (ν:=ν) GP dg
    simp only[VR]at hv ⊢
    refine⟨hv,cs',none,rfl,?_⟩
    have hfq:EE τ n=some (.slice e):=by
     unfold eQ at hq
     split at hq
     ·rename_i a ha
      rw[ha]
      have:=ayV hq
      rw[this]
     ·cases hq
    have h2:=EY n _ hfq g9
    have h3:=Dh hq
    simp only[bQ,aAO]at h3
    have h4:=azS (fun l=>l[0]?) h2
    simp only[azJ,azK,aAO]at h4
    rw[ayF (show 0<(Ty.slice e).size from Nat.one_pos),ayF (show 0<(Ty.slice e).size from Nat.one_pos)]at h4
    rw[h4];exact h3
  ·exact VR.MW GP dg
 refine aN (vt ho (run_build w t _ cs' ?_)) (hn _ _ _ _ _ _ _ hK fg hvr)
 unfold Program.built
 rw[hi,hu]
 have hzc:(bU τ τ.cy).cells=τ.cy.toArray:=by apply aAy;rw[eW]
 simp only[hz,Kt,qz,hzc]
 exact hf
theorem CG(hE:EnvTy P E)(hc:Core c σ a.tmps w M ν){t:TypeId}{n:Nat}{ps:Array (Nat×Operand)}(ho:o.op= .buildSlice t n ps){K:fO α}{e:Ty}(ht:E.ty t=some (.slice e)){id:Nat}
  (h:cond (Nat.ble (n*(e.size+1)) 16777216) (nL σ.H id (.own e []) (rV e σ.H n (partsOf σ.ρ ps) (List.replicate n e.zero) [] [] fun l rd ups=>K (.ref id) (id::rd) (ups++[(id,some (.own e l))]))) none=some r)
  (hn:eh c σ a o w M ν K r next):o.wp P a w next Q:=by
 obtain⟨hb,h⟩:=bP h
 obtain⟨aV,h⟩:=iF h
 have hb:=aBn hb
 rw[Nat.mul_add,Nat.mul_one]at hb
 obtain⟨e',hu,hle⟩:=(hE.ty t _ ht).slice
 obtain⟨ie,hie,hes,hz,_⟩:=hle.base
 obtain⟨l',wU,kT,M',cs',hK,fg,Cp,Gq,G4,dg,hf⟩:=xS (partsOf σ.ρ ps) (ps.toList.map fun(p:Nat×Operand)=>(p.1,a.eval p.2)) σ.H M (List.replicate n e.zero) (madeCells (bU e e.cy).cells (n*e.size)) [] [] _ (.refl _) hc.mem (hc.pr ps.toList)
  (by rw[ayS]) (size_madeCells _ _) (nQ.made w M e (ayJ _)) rfl h
 have ach:ch σ.H kT id=none:=Cp.none aV
 have sd:=fg.trans (Tr.row fg.mem ach e' (e:=e) (cs:=cs') (l:=l') (cap:=n) (by omega) (by simp[maxLen];omega) G4 dg)
 have cT:(Instr.buildSlice t n (ps.map fun(i,x)=>(i,a.eval x))).run P w= .ok (.slice (some ⟨w.heap.size,0,none⟩) n n) (w.alloc (.cells cs' e')):=by
  by_cases h0:n*e.size=0
  ·rw[h0]at hf
   have hm0:madeCells (bU e e.cy).cells 0=(Array.range 0).map fun i:Nat=>(#[]:Array Value)[i%0]! :=by simp[madeCells]
   rw[hm0]at hf
   rw[←qz]at hf
   simp[Instr.buildSlice,run_underlying hu,Go.sizeOf,typeInfo,hie,hes,h0,newRow]at hf ⊢
   simp[hf]
  ·refine run_buildSlice w t e' n _ cs' ie _ hu hie hz (by rw[hes];omega) (by rw[hes];exact h0) ?_
   rw[hes,qz]
   exact hf
 refine aN (vu ho cT) (hn _ _ _ _ _ (fun b=>M' b∨b=w.heap.size) (cF ν id (.slice (some ⟨w.heap.size,0,none⟩) l'.length n)) hK ?_ ?_)
 ·rw[eu];exact sd
 ·simp only[VR]
  exact⟨by rw[eu];show bz _ id _ id≠none;rw[al];simp,by simp[cF,Gq]⟩
end VM
end
section
namespace VM
open Go
variable{P:Program}{E:Env}{o:Oper}{a:Act}{w:World}{M:Nat→Prop}{ν:Nat→Value}{σ:St}{c:Ctx}{α:Type}{r:α}{next:Act→World→Prop}{Q:Exit→Act→World→Prop}
def T4(o:Option Value)(d l:Int):Prop:=(o=none∧l=d)∨ ∃k,o=some (.int k l)
theorem nS(hc:Core c σ a.tmps w M ν){x:Option Operand}{d:Int}{k:Int→Option α}(h:um (x.map σ.ρ) d k=some r): ∃l,k l=some r∧T4 (x.map a.eval) d l:=by
 cases x with
 |none=>exact⟨d,h,.inl ⟨rfl,rfl⟩⟩
 |some x=>
  obtain⟨i,n,hx,h⟩:=j2 (h:rT (σ.ρ x) (fun _ x=>k x)=some r)
  have hv:=hc.ev x
  rw[hx]at hv
  exact⟨n,h,.inr ⟨i,by rw[←hv.int];rfl⟩⟩
theorem rA{s:Bool}{len cap:Nat}{lo hi mx:Option Value}{l h m:Int}(y6:T4 lo 0 l)(Gs:T4 hi len h)(QK:T4 mx cap m)(hm:mx.isNone=true∨hi.isSome=true)
  (h0:0≤l) (h1:l≤h) (h2:h≤m) (h3:m≤cap):(Instr.sliceBounds s len cap lo hi mx).run P w= .ok (l.toNat,h.toNat,m.toNat) w:=by
 have hb: ∀(k:IntKind) (i:Int) (y:Nat) cd,0≤i→i≤y→(Instr.sliceBound (.int k i) y cd).run P w= .ok i.toNat w:=by
  intro k i y cd h1 h2
  simp[Instr.sliceBound,asIntOf,h1,h2]
 have gY:((m.toNat:Nat):Int)=m:=by omega
 have Ku:((h.toNat:Nat):Int)=h:=by omega
 rcases QK with⟨rfl,rfl⟩|⟨km,rfl⟩
 ·rcases Gs with⟨rfl,rfl⟩|⟨kh,rfl⟩
  ·rcases y6 with⟨rfl,rfl⟩|⟨kl,rfl⟩
   ·simp[Instr.sliceBounds]
   ·simp[Instr.sliceBounds,hb kl l len _ h0 h1]
  ·rcases y6 with⟨rfl,rfl⟩|⟨kl,rfl⟩
   ·simp[Instr.sliceBounds,hb kh h cap _ (by omega) h2]
   ·simp[Instr.sliceBounds,hb kh h cap _ (by omega) h2,hb kl l h.toNat _ h0 (by omega)]
 ·rcases Gs with⟨rfl,rfl⟩|⟨kh,rfl⟩
  ·simp at hm
  ·rcases y6 with⟨rfl,rfl⟩|⟨kl,rfl⟩
   ·simp[Instr.sliceBounds,hb km m cap _ (by omega) h3,hb kh h m.toNat _ (by omega) (by omega)]
   ·simp[Instr.sliceBounds,hb km m cap _ (by omega) h3,hb kh h m.toNat _ (by omega) (by omega),hb kl l h.toNat _ h0 (by omega)]
theorem CH{ρ:Operand→Value}{t:TypeId}{x:Operand}{lo hi mx:Option Operand}(ho:o.op= .slice t x lo hi mx){s:ByteArray}{l h:Int}(hu:P.underlying t=some .string)(hx:ρ x= .string s)
  (y6:T4 (lo.map ρ) 0 l) (Gs:T4 (hi.map ρ) s.size h) (QK:mx.isNone=true) (h0:0≤l) (h1:l≤h) (h2:h≤s.size):(execOp ρ o).run P w= .ok (.value (.string (s.extract l.toNat h.toNat))) w:=by
 have hm:mx=none:=by simpa using QK
 subst hm
 have hb:=rA (P:=P) (w:=w) (s:=false) y6 Gs (.inl ⟨rfl,rfl⟩) (.inl rfl) h0 h1 h2 (azC _)
 simp[execOp,ho,hx,Instr.sliceAt,Instr.slice,run_underlying hu,hb]
theorem qA{ρ:Operand→Value}{t e:TypeId}{x:Operand}{lo hi mx:Option Operand}(ho:o.op= .slice t x lo hi mx){τ:Ty}{ad:Option Addr}{len cap:Nat}{l h m:Int}(hu:P.underlying t=some (.slice e))(hle:g6 P τ e)(hx:ρ x= .slice ad len cap)
  (y6:T4 (lo.map ρ) 0 l) (Gs:T4 (hi.map ρ) len h) (QK:T4 (mx.map ρ) cap m) (hm:(mx.map ρ).isNone=true∨(hi.map ρ).isSome=true) (h0:0≤l) (h1:l≤h) (h2:h≤m) (h3:m≤cap):
  (execOp ρ o).run P w= .ok (.value (.slice (if m.toNat=l.toNat then ad else ad.map (·.add (l.toNat*τ.size))) (h.toNat-l.toNat) (m.toNat-l.toNat))) w:=by
 have hb:=rA (P:=P) (w:=w) (s:=true) y6 Gs QK hm h0 h1 h2 h3
 simp[execOp,ho,hx,Instr.sliceAt,Instr.slice,run_underlying hu,hb,cw hle]
theorem xT{x:Option Operand}(h:iS x=true)(a:Act): ∃k,x.map a.eval=some (.int k 0):=by
 unfold iS at h
 split at h
 ·rename_i k n
  have:n=0:=by simpa using h
  subst this
  exact⟨k,rfl⟩
 ·cases h
theorem Rd.cut{e:Ty}{ad:Option Addr}{len cap:Nat}{x:List e.den}(h:Rd w M (.slice e) [.slice ad len cap] x){l hh m:Int}(h0:0≤l)(h1:l≤hh)(h2:hh≤m)(hl:hh≤x.length):
  Rd w M (.slice e) [.slice (if m.toNat=l.toNat then ad else ad.map (·.add (l.toNat*e.size))) (hh.toNat-l.toNat) (m.toNat-l.toNat)] (List.drop l.toNat (List.take hh.toNat x)):=by
 simp only[Rd,azq,az4]at h ⊢
 obtain⟨a',ka,hv,hc,hr⟩:=h
 cases hv
 have hlen:List.length (List.drop l.toNat (List.take hh.toNat x))=hh.toNat-l.toNat:=by rw[aza,ayX];omega
 refine⟨_,_,by rw[hlen],by rw[hlen];omega,fun i hi=> ?_⟩
 rw[hlen]at hi
 obtain⟨b,off,ha,hb,hm,cs,lG,iu⟩:=hr (l.toNat+i) (by omega)
 rw[ayE (by omega)]
 refine⟨b,off+l.toNat*e.size,by rw[ha];simp[Addr.add_lit],hb,hm,cs,?_,?_⟩
 ·rw[show off+l.toNat*e.size+i*e.size=off+(l.toNat+i)*e.size from by rw[azx];omega];exact lG
 ·simp only[aBx,List.getElem_drop,List.getElem_take]at iu ⊢
  exact iu
theorem VR.emp{H:Nat→Option aS}{v:Value}:VR w M H ν .emp v↔ ∃ad,v= .slice ad 0 0:=by simp[VR]
theorem QL(hE:EnvTy P E)(hc:Core c σ a.tmps w M ν){t:TypeId}{x:Operand}{lo hi mx:Option Operand}(ho:o.op= .slice t x lo hi mx){K:fO α}{τ:Ty}(ht:E.ty t=some τ)
  (h:nN τ (lo.isNone&&iS hi&&iS mx) (σ.ρ x) (lo.map σ.ρ) (hi.map σ.ρ) (mx.map σ.ρ) σ.H K=some r) (hn:eh c σ a o w M ν K r next):o.wp P a w next Q:=by
 have vp:=hE.ty t τ ht
 have hv:=hc.ev x
 have hz0: ∀(e:Ty) (e':TypeId) (ad:Option Addr) (len cap:Nat),P.underlying t=some (.slice e')→g6 P e e'→a.eval x= .slice ad len cap→(lo.isNone&&iS hi&&iS mx)=true→
   ∃ad',(execOp a.eval o).run P w= .ok (.value (.slice ad' 0 0)) w:=by
  intro e e' ad len cap hu hle hx hz
  simp only[ayQ]at hz
  obtain⟨⟨h1,h2⟩,h3⟩:=hz
  have h1:lo=none:=by simpa using h1
  subst h1
  obtain⟨k2,h2⟩:=xT h2 a
  obtain⟨k3,h3⟩:=xT h3 a
  have:=qA (P:=P) (w:=w) ho hu hle hx (l:=0) (h:=0) (m:=0) (.inl ⟨rfl,rfl⟩) (.inr ⟨k2,h2⟩) (.inr ⟨k3,h3⟩) (.inr (by rw[h2];rfl)) (by omega) (by omega) (by omega) (by omega)
  exact⟨_,this⟩
 unfold nN at h
 split at h
 ·rename_i s hx
  obtain⟨hm,h⟩:=bP h
  obtain⟨l,h,y6⟩:=nS hc h
  obtain⟨hh,h,Gs⟩:=nS hc h
  obtain⟨hk,h⟩:=bP h
  rw[vg]at hk
  obtain⟨h0,h1,h2,h3⟩:=ayV hk
  rw[hx]at hv
  exact aN (CH ho vp.str hv.str y6 Gs (by simpa using hm) h0 h1 h2) (hn _ [] [] _ _ _ _ h (.refl hc.mem) (.mkStr _))
 ·rename_i e hx
  obtain⟨e',hu,hle⟩:=vp.slice
  rw[hx]at hv
  obtain⟨ad,hv⟩:=VR.emp.1 hv
  cases hz:(lo.isNone&&iS hi&&iS mx)
  ·rw[hz]at h
   replace h:cond (mx.map σ.ρ).isNone (um (lo.map σ.ρ) 0 fun l=>um (hi.map σ.ρ) 0 fun h=>cond (gH l h 0 0) (K .emp [] []) none) none=some r:=h
   obtain⟨hm,h⟩:=bP h
   obtain⟨l,h,y6⟩:=nS hc h
   obtain⟨hh,h,Gs⟩:=nS hc h
   obtain⟨hk,hK⟩:=bP h
   rw[vg]at hk
   obtain⟨h0,h1,h2,h3⟩:=ayV hk
   have gY:mx=none:=by simpa using hm
   subst gY
   have:=qA (P:=P) (w:=w) ho hu hle hv y6 Gs (.inl ⟨rfl,rfl⟩) (.inl rfl) h0 h1 (m:=0) (by omega) (by omega)
   refine aN this (hn _ [] [] _ _ _ _ hK (.refl hc.mem) (VR.emp.2 ?_))
   rw[show hh.toNat-l.toNat=0 from by omega,show(0:Int).toNat-l.toNat=0 from by omega]
   exact⟨_,rfl⟩
  ·rw[hz]at h
   obtain⟨ad',cT⟩:=hz0 e e' ad 0 0 hu hle hv hz
   exact aN cT (hn _ [] [] _ _ _ _ h (.refl hc.mem) (VR.emp.2 ⟨_,rfl⟩))
 ·rename_i e gq
  obtain⟨e',hu,hle⟩:=vp.slice
  cases hz:(lo.isNone&&iS hi&&iS mx)
  ·rw[hz]at h
   obtain⟨y,rd,ups,M',h,fg,hV,_⟩:=kW (.refl _) hc.mem hv h
   replace h:cond ((mx.map σ.ρ).isNone||(hi.map σ.ρ).isSome) (um (lo.map σ.ρ) 0 fun l=>um (hi.map σ.ρ) (List.length y:Int) fun h=>um (mx.map σ.ρ) (List.length y:Int) fun m=>
    cond (gH l h m (List.length y:Int)) (K (.val (.slice e) (List.drop l.toNat (List.take h.toNat y))) rd ups) none) none=some r:=h
   obtain⟨hm,h⟩:=bP h
   obtain⟨l,h,y6⟩:=nS hc h
   obtain⟨hh,h,Gs⟩:=nS hc h
   obtain⟨m,h,QK⟩:=nS hc h
   obtain⟨hk,h⟩:=bP h
   rw[vg]at hk
   obtain⟨h0,h1,h2,h3⟩:=ayV hk
   have hr:=V.slice.1 hV
   have dg:=hr
   simp only[Rd,azq,az4]at dg
   obtain⟨ad,cap,hx,ahH,_⟩:=dg
   rw[hx]at hr
   have gY:(mx.map a.eval).isNone=true∨(hi.map a.eval).isSome=true:=by
    simp only[aAj,Option.isNone_map,Option.isSome_map]at hm ⊢;exact hm
   have acy: ∃m',T4 (mx.map a.eval) cap m'∧hh≤m'∧m'≤cap:=by
    rcases QK with⟨h9,_⟩|⟨k,h9⟩
    ·exact⟨cap,.inl ⟨h9,rfl⟩,by omega,azC _⟩
    ·exact⟨m,.inr ⟨k,h9⟩,h2,by omega⟩
   obtain⟨m',acy,h4,h5⟩:=acy
   have cT:=qA (P:=P) (w:=w) ho hu hle hx y6 Gs acy gY h0 h1 h4 h5
   refine aN cT (hn _ _ _ _ _ M' _ h fg ?_)
   simp only[VR]
   exact V.slice.2 (hr.cut h0 h1 h4 (by omega))
  ·rw[hz]at h
   obtain⟨y,rd,h,hS⟩:=xO hc.mem hv h
   obtain⟨ad,cap,hx,_⟩:=hS
   obtain⟨ad',cT⟩:=hz0 e e' ad _ cap hu hle hx hz
   exact aN cT (hn _ _ [] _ _ _ _ h (.refl hc.mem) (VR.emp.2 ⟨_,rfl⟩))
 ·cases h
end VM
end
section
namespace VM
open Go
variable{P:Program}{E:Env}{o:Oper}{a:Act}{w:World}{M:Nat→Prop}{ν:Nat→Value}{σ:St}{c:Ctx}{α:Type}{r:α}{next:Act→World→Prop}{Q:Exit→Act→World→Prop}
theorem o1{t ty e:TypeId}{i:TypeInfo}(ht:P.underlying t=some (.slice e))(hi:P.info? e=some i)(base:Option Addr)(n cap:Nat)(h:n≤cap)(a':Option Addr)(cp:Nat):
  (Builtin.append_ #[t,t] ty #[.slice base n cap,.slice a' 0 cp]).run P w= .ok (.slice base n cap) w:=by
 cases a'<;>cases base<;>simp[Builtin.append_,run_underlying ht,Go.sizeOf,typeInfo,hi,Builtin.lenOf,h,Builtin.firstCells,loadCells,loadCellsFrom,storeCells]
theorem G6{t ty e te:TypeId}{i:TypeInfo}(ht:P.underlying t=some (.slice e))(hi:P.info? e=some i){b n cap m cp:Nat}{a':Addr}{news:List Value}{cs:Array Value}
  (hg:w.heap[b]? =some (.cells cs te (0,0))) (hs:cs.size=cap*i.size) (hl:news.length=m*i.size) (hn: ∀j u,news[j]? =some u→w.cell? (a'.add j)=some u) (h1: ∀u∈news,u.oneCell'=true) (hr:n+m≤cap):
  (Builtin.append_ #[t,t] ty #[.slice (some ⟨b,0,none⟩) n cap,.slice (some a') m cp]).run P w= .ok (.slice (some ⟨b,0,none⟩) (n+m) cap) (w.setRow b (dz cs.toList (n*i.size) news).toArray):=by
 have hf:=run_firstCells_some (P:=P) w i.size m a' m cp news hl hn
 have hm:(n+m)*i.size≤cap*i.size:=azy _ hr
 rw[azx]at hm
 have Kq:=run_storeCells_at (P:=P) b (n*i.size) te news 0 cs w hg (by omega) h1
 simp only[aAO]at Kq
 simp[Builtin.append_,run_underlying ht,Go.sizeOf,typeInfo,hi,Builtin.lenOf,hr,hf,Addr.add_lit,Kq,dz]
theorem e9{args:Array Operand}{t:TypeId}{x y:Operand}{v:Value}{w':World}(ho:o.op= .call {callee:= .builtin .append,args,argTypes:= #[t,t]})(ha:args.toList=[x,y])
  (h:(Builtin.append_ #[t,t] o.type #[a.eval x,a.eval y]).run P w= .ok v w'):(execOp a.eval o).run P w= .ok (.value v) w':=by
 obtain⟨cs,hr⟩:=nP (P:=P) (ρ:=a.eval) ho (w:=w)
 rw[hr]
 have:args.map a.eval= #[a.eval x,a.eval y]:=by apply aAy;simp[ha]
 rw[this]
 simp[builtin,h]
theorem Aq{H:Nat→Option aS}(hm:Mem c H w M ν){id:Nat}(aV:H id=none){t ty:TypeId}{e':TypeId}{e:Ty}(hu:P.underlying t=some (.slice e'))(hle:g6 P e e')
  {xs ys:List e.den} {olds news:List Value} {base:Option Addr} {cap cp:Nat} {a':Addr} (QM:base=none→xs=[]∧cap=0)
  (y6:olds.length=xs.length*e.size) (hro:nQ w M e olds xs) (ho: ∀b,base=some b→ ∀j u,olds[j]? =some u→w.cell? (b.add j)=some u)
  (T5:news.length=ys.length*e.size) (hrn:nQ w M e news ys) (hn: ∀j u,news[j]? =some u→w.cell? (a'.add j)=some u)
  (hg:cap<xs.length+ys.length) (hs:xs.length+ys.length<u7):
  ∃v w' M' ν',(Builtin.append_ #[t,t] ty #[.slice base xs.length cap,.slice (some a') ys.length cp]).run P w= .ok v w'∧Tr c H w M ν (bz H id (some (.own e (xs++ys)))) w' M' ν'∧ν' id=v:=by
 obtain⟨i,hi,qp,hz,hby⟩:=hle.base
 have hzs:(bU e e.cy).cells.size=e.size:=by rw[←ayM,eW,lI]
 have h63:xs.length+ys.length≤maxLen:=by simp only[u7,maxLen]at hs ⊢;omega
 have G7:(xs.length+ys.length)*i.bytes≤140737488355328:=by
  have:(xs.length+ys.length)*i.bytes≤68719476736*2048:=aBB (by simp only[u7]at hs;omega) hby
  omega
 have cT: ∃ka rest,(Builtin.append_ #[t,t] ty #[.slice base xs.length cap,.slice (some a') ys.length cp]).run P w= .ok (.slice (some ⟨w.heap.size,0,none⟩) (xs.length+ys.length) ka) (w.drew.alloc (.cells (olds++news++rest).toArray e'))∧
   xs.length+ys.length≤ka∧ka≤maxLen∧rest.length=(ka-(xs.length+ys.length))*e.size:=by
  refine⟨grownCap w (xs.length+ys.length) cap e',(Builtin.zeroCells (bU e e.cy).cells (grownCap w (xs.length+ys.length) cap e'-(xs.length+ys.length))).toList,?_,grownCap_ge _ _ _ _,grownCap_le_maxLen _ _ _ _ h63,?_⟩
  ·cases base with
   |none=>
    obtain⟨rfl,rfl⟩:=QM rfl
    have ho0:olds=[]:=azL (by rw[y6];simp)
    subst ho0
    have:=run_append_nil (P:=P) w t ty e' i _ hu hi hz a' ys.length cp news (by rw[T5,qp]) hn (by simpa using hg) (by simp only[u7]at hs;omega) (by simp at G7;omega)
    simp only[ayW,azH,ay8]
    rw[this]
    congr 2
    apply azS (fun z=>Obj.cells z e' (0,0))
    apply aAy;simp
   |some b=>
    have:=run_append_grow (P:=P) w t ty e' i _ hu hi hz b xs.length cap olds (by rw[y6,qp]) (ho b rfl) a' ys.length cp news (by rw[T5,qp]) hn hg (by simp only[u7]at hs;omega) (growslice_fits hg G7)
    rw[this]
    congr 2
    apply azS (fun z=>Obj.cells z e' (0,0))
    apply aAy;simp
  ·rw[ayM,size_zeroCells,hzs]
 obtain⟨ka,rest,cT,CF,hc2,ahM⟩:=cT
 have hlen:(xs++ys).length=xs.length+ys.length:=ayH
 have hd:=Tr.drew hm
 have hon:(olds++news).length=(xs++ys).length*e.size:=by rw[ayH,y6,T5,hlen,azx]
 have KX:=Tr.row hd.mem aV e' (e:=e) (cs:=(olds++news++rest).toArray) (l:=xs++ys) (cap:=ka) (by rw[hlen];exact CF) hc2
  (by rw[azA,ayH,hon,ahM,hlen,←azx];congr 1;omega)
  (nQ.more ((hro.append y6 hrn).bD hd.bD) (by rw[hon];exact ayJ _))
 refine⟨_,_,_,_,cT,hd.trans KX,?_⟩
 rw[←hlen];simp[cF]
theorem Og(hE:EnvTy P E)(hc:Core c σ a.tmps w M ν){args:Array Operand}{ts:Array TypeId}{t t':TypeId}{x y:Operand}(ho:o.op= .call {callee:= .builtin .append,args,argTypes:=ts})(ha:args.toList=[x,y])(hts:ts.toList=[t,t']){K:fO α}{e:Ty}
  (ht:E.ty t=some (.slice e)) {id:Nat} (h:cond (Nat.beq t t') (nL σ.H id (.own e []) (GG id e (σ.ρ x) (σ.ρ y) σ.H K)) none=some r) (hn:eh c σ a o w M ν K r next):o.wp P a w next Q:=by
 obtain⟨htt,h1⟩:=bP h
 clear h
 have htt:=ay9 htt
 subst htt
 obtain⟨aV,h⟩:=iF h1
 clear h1
 have anv:ts= #[t,t]:=by apply aAy;simpa using hts
 subst anv
 obtain⟨e',hu,hle⟩:=(hE.ty t _ ht).slice
 obtain⟨i,hi,qp,hz,hby⟩:=hle.base
 have EW:=hc.ev x
 unfold GG at h
 obtain⟨ys,rd,h,hS⟩:=xO hc.mem (hc.ev y) h
 have acB:(ys=[]∧ ∃a' cp,a.eval y= .slice a' 0 cp)∨(ys≠[]∧ ∃a' cp news,a.eval y= .slice (some a') ys.length cp∧news.length=ys.length*e.size∧(∀j u,news[j]? =some u→w.cell? (a'.add j)=some u)∧nQ w M e news ys∧ ∀u∈news,u.oneCell'=true):=by
  by_cases hy:ys=[]
  ·left
   obtain⟨a',cp,hv,_⟩:=hS
   exact⟨hy,a',cp,by rw[hv,hy];rfl⟩
  ·right
   obtain⟨b,off,cp,news,hv,hl,lG,iu,h1⟩:=hS.cells hy
   exact⟨hy,⟨b,off,none⟩,cp,news,hv,hl,fun j u hj=>by rw[Addr.add_lit];exact lG j u hj,iu,h1⟩
 split at h
 ·
  rename_i hx
  rw[hx]at EW
  obtain⟨ad,EW⟩:=VR.emp.1 EW
  obtain⟨T6,h⟩:=bP h
  rw[z7]at T6
  have T6:=ayV T6
  rcases acB with⟨rfl,a',cp,yZ⟩|⟨hy,a',cp,news,yZ,hl,lG,iu,h1⟩
  ·refine aN (e9 ho ha (by rw[EW,yZ];exact o1 hu hi ad 0 0 (ayJ _) a' cp)) (hn _ _ _ _ _ _ _ h (Tr.nothing hc.mem aV e ad) ?_)
   simp only[VR]
   exact⟨by show bz _ id _ id≠none;rw[al];simp,by simp[cF]⟩
  ·have KY:0<ys.length:=azQ.2 hy
   obtain⟨v,w',M',ν',cT,fg,hv⟩:=Aq (P:=P) (ty:=o.type) hc.mem aV hu hle (xs:=[]) (ys:=ys) (olds:=[]) (news:=news) (base:=ad) (cap:=0) (cp:=cp) (a':=a') (fun _=>⟨rfl,rfl⟩) (by simp) (fun i hi=>absurd hi (by simp)) (fun _ _ j u hj=>by simp at hj)
    hl iu lG (by simpa using KY) (by simpa using T6)
   refine aN (e9 ho ha (by rw[EW,yZ];exact cT)) (hn _ _ _ _ _ _ _ h fg ?_)
   simp only[VR]
   exact⟨by show bz _ id _ id≠none;rw[al];simp,hv.symm⟩
 ·
  rename_i j hx
  rw[hx]at EW
  simp only[VR]at EW
  obtain⟨_,EW⟩:=EW
  split at h
  ·rename_i e1 l hj
   obtain⟨e2,h⟩:=bg h
   cases e2
   obtain⟨T6,h⟩:=bP h
   rw[z7]at T6
   have T6:l.length+ys.length<u7:=ayV T6
   have gq:id≠j:=fun e=>by rw[e,hj]at aV;cases aV
   have mG:bz σ.H j (some .gone) id=none:=by rw[an _ _ gq];exact aV
   have Kv:=Tr.gone hc.mem j
   have jI:=hc.mem.jr j _ hj
   simp only[ER]at jI
   rcases jI with⟨rfl,ad,hjv⟩|⟨b,cs,te,cap,hjv,hg,hM,Qg,hl,Ac,hs,hr⟩
   ·rw[hjv]at EW
    rcases acB with⟨rfl,a',cp,yZ⟩|⟨hy,a',cp,news,yZ,hl,lG,iu,h1⟩
    ·refine aN (e9 ho ha (by rw[EW,yZ];exact o1 hu hi ad 0 0 (ayJ _) a' cp)) (hn _ _ _ _ _ _ _ h (Kv.trans (Tr.nothing Kv.mem mG e ad)) ?_)
     simp only[VR]
     exact⟨by show bz _ id _ id≠none;rw[al];simp,by simp[cF]⟩
    ·have KY:0<ys.length:=azQ.2 hy
     obtain⟨v,w',M',ν',cT,fg,hv⟩:=Aq (P:=P) (ty:=o.type) Kv.mem mG hu hle (xs:=[]) (ys:=ys) (olds:=[]) (news:=news) (base:=ad) (cap:=0) (cp:=cp) (a':=a') (fun _=>⟨rfl,rfl⟩) (by simp) (fun i hi=>absurd hi (by simp)) (fun _ _ j u hj=>by simp at hj)
      hl iu lG (by simpa using KY) (by simpa using T6)
     refine aN (e9 ho ha (by rw[EW,yZ];exact cT)) (hn _ _ _ _ _ _ _ h (Kv.trans fg) ?_)
     simp only[VR]
     exact⟨by show bz _ id _ id≠none;rw[al];simp,hv.symm⟩
   ·rw[hjv]at EW
    have ES:cs.toList.length=cap*e.size:=by rw[ayM,hs]
    have Dn:l.length*e.size≤cap*e.size:=azy _ hl
    rcases acB with⟨rfl,a',cp,yZ⟩|⟨hy,a',cp,news,yZ,T5,lG,iu,h1⟩
    ·refine aN (e9 ho ha (by rw[EW,yZ];exact o1 hu hi _ _ cap hl a' cp)) (hn _ _ _ _ _ M (cF ν id (ν j)) h ?_ ?_)
     ·refine Tr.rename hc.mem hj aV (.inr rfl) ?_
      rw[ay2]
      exact hc.mem.jr j _ hj
     ·simp only[VR]
      exact⟨by show bz _ id _ id≠none;rw[al];simp,by simp[cF,hjv]⟩
    ·by_cases vv:l.length+ys.length≤cap
     ·have hmul:(l.length+ys.length)*e.size≤cap*e.size:=azy _ vv
      rw[azx]at hmul
      have cT:=G6 (P:=P) (ty:=o.type) hu hi (w:=w) (b:=b) (n:=l.length) (cap:=cap) (m:=ys.length) (cp:=cp) (a':=a') (news:=news) (cs:=cs) hg (by rw[hs,qp]) (by rw[T5,qp]) lG h1 vv
      rw[qp]at cT
      have Uy:dz cs.toList (l.length*e.size) news=(cs.toList.take (l.length*e.size)++news)++cs.toList.drop (l.length*e.size+news.length):=rfl
      have hold:nQ w M e (cs.toList.take (l.length*e.size)) l:=nQ.take hr (ayJ _)
      have htl:(cs.toList.take (l.length*e.size)).length=l.length*e.size:=by rw[ayX];omega
      have aa8:nQ w M e (dz cs.toList (l.length*e.size) news) (l++ys):=by
       rw[Uy]
       refine nQ.more (hold.append htl iu) ?_
       rw[ayH,ayH,htl,T5,azx];exact ayJ _
      have hsl:(dz cs.toList (l.length*e.size) news).length=cap*e.size:=by rw[eE (by omega)];exact ES
      have UG:Tr c σ.H w M ν (bz σ.H j (some (.own e l))) (w.setRow b (dz cs.toList (l.length*e.size) news).toArray) M ν:=by
       refine Tr.write (e':= .own e l) hc.mem hj trivial trivial (.refl _) (by rw[hjv];simp[eJ];omega) hg fun Kp hk wZ=> ?_
       simp only[ER]
       refine .inr ⟨b,_,te,cap,hjv,setRow_heap w b cs _ te _ hg,wZ,Qg,hl,Ac,by rw[azA];exact hsl,fun k Am=> ?_⟩
       have:=(aa8 k (by rw[ayH];omega)).bD hk
       rw[aA9 Am]at this
       exact this
      rw[wX hj]at UG
      have sd:Tr c σ.H (w.setRow b (dz cs.toList (l.length*e.size) news).toArray) M ν (bz (bz σ.H j (some .gone)) id (some (.own e (l++ys)))) (w.setRow b (dz cs.toList (l.length*e.size) news).toArray) M (cF ν id (.slice (some ⟨b,0,none⟩) (l++ys).length cap)):=by
       refine Tr.rename UG.mem hj aV (.inr (by rw[hjv];simp[eJ])) ?_
       simp only[ER]
       refine .inr ⟨b,_,te,cap,rfl,setRow_heap w b cs _ te _ hg,hM,Qg,by rw[ayH];exact vv,Ac,by rw[azA];exact hsl,(aa8.bD UG.bD)⟩
      refine aN (e9 ho ha (by rw[EW,yZ];exact cT)) (hn _ _ _ _ _ _ _ h (UG.trans sd) ?_)
      simp only[VR]
      exact⟨by show bz _ id _ id≠none;rw[al];simp,by simp[cF]⟩
     ·obtain⟨v,w',M',ν',cT,fg,hv⟩:=Aq (P:=P) (ty:=o.type) Kv.mem mG hu hle (xs:=l) (ys:=ys) (olds:=cs.toList.take (l.length*e.size)) (news:=news) (base:=some ⟨b,0,none⟩) (cap:=cap) (cp:=cp) (a':=a') (fun h=>by cases h)
       (by rw[ayX];omega) (nQ.take hr (ayJ _)) (fun b' dN k u hk=>by
        cases dN
        rw[Addr.add_lit,cell_of hg]
        rw[azJ]at hk
        split at hk
        ·rw[←azh];simpa using hk
        ·cases hk)
       T5 iu lG (by omega) T6
      refine aN (e9 ho ha (by rw[EW,yZ];exact cT)) (hn _ _ _ _ _ _ _ h (Kv.trans fg) ?_)
      simp only[VR]
      exact⟨by show bz _ id _ id≠none;rw[al];simp,hv.symm⟩
  ·cases h
 ·cases h
end VM
end
section
namespace VM
open Go
variable{P:Program}{E:Env}{o:Oper}{a:Act}{w:World}{M:Nat→Prop}{ν:Nat→Value}{σ:St}{c:Ctx}{α:Type}{r:α}{next:Act→World→Prop}{Q:Exit→Act→World→Prop}
def rQ:{m:AM}→{ms:List AM}→HP (m::ms)→m.den
 |_,[],x=>x
 |_,_::_,x=>x.1
def wP:{m:AM}→{ms:List AM}→HP (m::ms)→HP ms
 |_,[],_=>()
 |_,_::_,x=>x.2
def AM.fY:AM→Bool
 | .io _=>true
 |_=>false
def AM.UH:AM→Bool
 | .fn _ _| .fW _=>true
 |_=>false
def A1(w:World)(M:Nat→Prop):(m:AM)→m.den→Value→Prop
 | .v τ,x,v=>V w M τ v x
 | .own e,x,v=>ER w M v (.own e x)
 | .io τ,x,v=>ER w M v (.obj τ x)
 | .fn f τ,x,v=>VR w M (fun _=>none) (fun _=>undef) (.GB f (mY τ x)) v
 | .ptr τ,x,v=>ER w M v (.obj τ x)
 | .fW τ,x,v=>VR w M (fun _=>none) (fun _=>undef) (.nK τ x) v
def gr(w:World)(M:Nat→Prop):(ms:List AM)→HP ms→List Value→Prop
 |[],_,vs=>vs=[]
 |_::ms,x,vs=> ∃v Gt,vs=v::Gt∧A1 w M _ (rQ x) v∧gr w M ms (wP x) Gt
def cN:AM→Value→List Nat
 | .own _,v| .io _,v| .ptr _,v=>(eJ v).toList
 |_,_=>[]
def cW:List AM→List Value→List Nat
 |m::ms,v::vs=>cN m v++cW ms vs
 |_,_=>[]
def dK:List AM→List Value→List Value
 |m::ms,v::vs=>if m.fY then v::dK ms vs else dK ms vs
 |_,_=>[]
def lT:List AM→List Ty
 | .io τ::ms=>τ::lT ms
 |_::ms=>lT ms
 |[]=>[]
def RR(w:World)(M:Nat→Prop):(ms:List AM)→HP ms→List Value→List Value→Prop
 |[],_,vs,ps=>vs=[]∧ps=[]
 |m::ms,x,vs,ps=>(∃p CI,m.fY=true∧ps=p::CI∧A1 w M m (rQ x) p∧RR w M ms (wP x) vs CI)∨
  (∃v Gt,m.fY=false∧m.UH=false∧vs=v::Gt∧A1 w M m (rQ x) v∧RR w M ms (wP x) Gt ps)
def bk:List AM→List Value→List Value→List Nat
 |[],_,_=>[]
 |m::ms,vs,ps=>if m.fY then cN m (ps.headD undef)++bk ms vs ps.tail else cN m (vs.headD undef)++bk ms vs.tail ps
def Ty.flat:Ty→Bool
 | .slice _=>false
 | .pair a b=>a.flat&&b.flat
 | .arr _ e=>e.flat
 |_=>true
def AM.flat:AM→Bool
 | .v τ| .io τ| .own τ| .ptr τ=>τ.flat
 | .fn _ _| .fW _=>false
def si(vs:List Value):Value:=if h:vs.length=1 then vs[0]else .tuple vs.toArray
structure Left(w:World)(M0:Nat→Prop)(hs:List Nat)(w':World)(M':Nat→Prop):Prop where
 sub: ∀b,M0 b→M' b
 Ab: ∀b,M' b→b<w'.heap.size
 less: ∀b,b<w.heap.size→M' b→M0 b∨b∈hs
 frame: ∀b,b<w.heap.size→b∉hs→w'.heap[b]? =w.heap[b]?
 size:w.heap.size≤w'.heap.size
 os:w'.os=w.os
 tape:w'.tape=w.tape
 output:w'.output=w.output
def G8(P:Program)(f:FuncId)(args:Array Value)(w:World)(R:Value→World→Prop):Prop:=
 ∀(o:Oper) (a:Act) (next:Act→World→Prop) (Q:Exit→Act→World→Prop),(∀v w',R v w'→next (a.put o.dst v) w')→o.upon P a next Q ((callFunc f args).run P w)
theorem G8.mono{f:FuncId}{args:Array Value}{R R':Value→World→Prop}(h:G8 P f args w R)(hr: ∀v w',R v w'→R' v w'):G8 P f args w R':=
 fun o a next Q hn=>h o a next Q fun v w' hv=>hn v w' (hr v w' hv)
theorem pD{f:FuncId}{fn:Func}{args:Array Value}{R:Value→World→Prop}(hf:P.funcs[f]? =some fn)(hn:(fn.name== "runtime.NumGoroutine")=false)(hb:fn.body.isNone=false)
  (h:Calls P f args w fun e w'=> ∃v,e= .returned v∧R v w'):G8 P f args w R:=by
 intro o a next Q tX
 have hn': ¬fn.name= "runtime.NumGoroutine" :=by simpa using hn
 have dN: ¬fn.body=none:=fun e=>by rw[e]at hb;cases hb
 have:(callFunc f args).run P w= .ok (.enter f args) w:=by simp[callFunc,hf,hn',dN]
 rw[this,Oper.upon_enter]
 refine Calls.mono h ?_
 rintro e w' ⟨v,rfl,hR⟩
 exact tX v w' hR
theorem CJ{f:FuncId}{args:Array Value}{R:Value→World→Prop}{v:Value}{w':World}(h:(callFunc f args).run P w= .ok (.value v) w')(hR:R v w'):G8 P f args w R:=by
 intro o a next Q tX
 rw[h,Oper.upon_value]
 exact tX v w' hR
structure fh(P:Program)(f:FuncId)(S:iD):Prop where
 quiet:S.quiet=true→S.res.all AM.flat=true
 ios:lT S.args=lT S.res
 call: ∀(M0:Nat→Prop) (w:World) (vs:List Value) (x:HP S.args) (y:HP S.res),(∀b,M0 b→b<w.heap.size)→
  gr w (fun b=>M0 b∨b∈cW S.args vs) S.args x vs→(cW S.args vs).Nodup→(∀b∈cW S.args vs,¬M0 b)→S.run x=some y→
  G8 P f vs.toArray w fun v w'=> ∃us M',v=si us∧RR w' M' S.res y us (dK S.args vs)∧Left w M0 (cW S.args vs) w' M'∧
   (bk S.res us (dK S.args vs)).Nodup∧ ∀b∈bk S.res us (dK S.args vs),¬M0 b
theorem Rd.flat{w:World}{M M':Nat→Prop}: ∀{τ:Ty} {cs:List Value} {x:τ.den},τ.flat=true→Rd w M τ cs x→Rd w M' τ cs x
 | .int _,_,_,_,h| .bool,_,_,_,h| .str,_,_,_,h| .unit,_,_,_,h=>h
 | .slice _,_,_,hf,_=>by simp[Ty.flat]at hf
 | .pair a b,_,_,hf,h=>by
  simp only[Ty.flat,ayQ]at hf
  simp only[Rd]at h ⊢
  obtain⟨c1,c2,rfl,h1,h2⟩:=h
  exact⟨c1,c2,rfl,h1.flat hf.1,h2.flat hf.2⟩
 | .arr n e,_,x,hf,h=>by
  simp only[Ty.flat]at hf
  simp only[Rd]at h ⊢
  obtain⟨hn,N4,hc,rfl,hr⟩:=h
  exact⟨hn,N4,hc,rfl,fun i hi lR=>(hr i hi lR).flat hf⟩
theorem A1.flat{w:World}{M M':Nat→Prop}(hM: ∀b,M b→M' b){m:AM}{x:m.den}{v:Value}(hf:m.flat=true)(h:A1 w M m x v):A1 w M' m x v:=by
 cases m with
 |v τ=>
  simp only[A1,V,AM.flat]at h hf ⊢
  split
  ·rename_i ha;rw[ayF ha]at h;obtain⟨cs,h1,h⟩:=h;exact⟨cs,h1,h.flat hf⟩
  ·rename_i ha;rw[ayE ha]at h;exact h.flat hf
 |own e=>
  simp only[A1,ER,AM.flat]at h hf ⊢
  rcases h with h|⟨b,cs,t,cap,h1,h2,h3,h4,h5,h6,h7,h8⟩
  ·exact .inl h
  ·exact .inr ⟨b,cs,t,cap,h1,h2,hM b h3,h4,h5,h6,h7,fun i hi=>(h8 i hi).flat hf⟩
 |io τ=>
  simp only[A1,ER,AM.flat]at h hf ⊢
  obtain⟨b,cs,t,h1,h2,h3,h4⟩:=h
  exact⟨b,cs,t,h1,h2,hM b h3,h4.flat hf⟩
 |fn f τ=>simp[AM.flat]at hf
 |fW τ=>simp[AM.flat]at hf
 |ptr τ=>
  simp only[A1,ER,AM.flat]at h hf ⊢
  obtain⟨b,cs,t,h1,h2,h3,h4⟩:=h
  exact⟨b,cs,t,h1,h2,hM b h3,h4.flat hf⟩
theorem RR.flat{w:World}{M M':Nat→Prop}(hM: ∀b,M b→M' b): ∀{ms:List AM} {x:HP ms} {vs ps:List Value},ms.all AM.flat=true→RR w M ms x vs ps→RR w M' ms x vs ps
 |[],_,_,_,_,h=>h
 |m::ms,x,vs,ps,hf,h=>by
  simp only[aBt,ayQ]at hf
  simp only[RR]at h ⊢
  rcases h with⟨p,CI,h1,h2,h3,h4⟩|⟨v,Gt,h1,h2,h3,h4,h5⟩
  ·exact .inl ⟨p,CI,h1,h2,h3.flat hM hf.1,RR.flat hM hf.2 h4⟩
  ·exact .inr ⟨v,Gt,h1,h2,h3,h4.flat hM hf.1,RR.flat hM hf.2 h5⟩
theorem A1.sj{w w':World}{M M':Nat→Prop}(k:dy w M w' M'){m:AM}{x:m.den}{v:Value}(hm: ∀b∈cN m v,w'.heap[b]? =w.heap[b]? ∧M' b)(h:A1 w M m x v):A1 w' M' m x v:=by
 cases m with
 |v τ=>exact V.bD k h
 |own e=>
  simp only[A1]at h ⊢
  exact ER.bD k (fun _ b hb=>hm b (by simp[cN,hb])) h
 |io τ=>
  simp only[A1]at h ⊢
  exact ER.bD k (fun _ b hb=>hm b (by simp[cN,hb])) h
 |fn f τ=>exact VR.bD k (.refl _ _) h
 |fW τ=>exact VR.bD k (.refl _ _) h
 |ptr τ=>
  simp only[A1]at h ⊢
  exact ER.bD k (fun _ b hb=>hm b (by simp[cN,hb])) h
theorem gr.sj{w w':World}{M M':Nat→Prop}(k:dy w M w' M'): ∀{ms:List AM} {x:HP ms} {vs:List Value},(∀b∈cW ms vs,w'.heap[b]? =w.heap[b]? ∧M' b)→gr w M ms x vs→gr w' M' ms x vs
 |[],_,_,_,h=>h
 |m::ms,x,vs,hm,h=>by
  simp only[gr]at h ⊢
  obtain⟨v,Gt,rfl,h1,h2⟩:=h
  exact⟨v,Gt,rfl,h1.sj k (fun b hb=>hm b (by simp[cW,hb])),gr.sj k (fun b hb=>hm b (by simp[cW,hb])) h2⟩
theorem RR.sj{w w':World}{M M':Nat→Prop}(k:dy w M w' M'): ∀{ms:List AM} {x:HP ms} {us ps:List Value},(∀b∈bk ms us ps,w'.heap[b]? =w.heap[b]? ∧M' b)→RR w M ms x us ps→RR w' M' ms x us ps
 |[],_,_,_,_,h=>h
 |m::ms,x,us,ps,hm,h=>by
  simp only[RR]at h ⊢
  rcases h with⟨p,CI,h1,rfl,h2,h3⟩|⟨v,E0,h1,h2,rfl,h3,h4⟩
  ·simp only[bk,h1,aBc,aAU,aA1,ayU]at hm
   exact .inl ⟨p,CI,h1,rfl,h2.sj k (fun b hb=>hm b (.inl hb)),RR.sj k (fun b hb=>hm b (.inr hb)) h3⟩
  ·simp only[bk,h1,azv,aAt,aAU,aA1,ayU]at hm
   exact .inr ⟨v,E0,h1,h2,rfl,h3.sj k (fun b hb=>hm b (.inl hb)),RR.sj k (fun b hb=>hm b (.inr hb)) h4⟩
theorem zD{H:Nat→Option aS}(hm:Mem c H w M ν){a:bb}{v:Value}(hv:VR w M H ν a v){τ:Ty}{k:τ.den→List Nat→fN→Option α}{r:α}(h:iZ true a H τ k=some r):
  ∃y rd ups,k y rd ups=some r∧((ups=[]∧V w M τ v y)∨ ∃id e l,ups=[(id,some (.lF e l))]∧H id=some (.own e l)∧
   ∀M',(∀b,M' b↔(M b∧eJ (ν id)≠some b))→V w M' τ v y):=by
 unfold iZ at h
 split at h
 ·obtain⟨e,h⟩:=bg h
  subst e
  simp only[VR]at hv
  exact⟨_,[],[],h,.inl ⟨rfl,hv⟩⟩
 ·obtain⟨e,h⟩:=bg h
  subst e
  simp only[VR]at hv
  exact⟨_,[],[],h,.inl ⟨rfl,hv.1⟩⟩
 ·split at h
  ·rename_i e k' _
   simp only[VR]at hv
   obtain⟨a,rfl⟩:=hv
   refine⟨[],[],[],h,.inl ⟨rfl,V.slice.2 ?_⟩⟩
   simp only[Rd]
   exact⟨a,0,rfl,ayJ _,fun i hi=>absurd hi (by simp)⟩
  ·cases h
 ·rename_i id
  simp only[VR]at hv
  obtain⟨_,rfl⟩:=hv
  split at h
  ·rename_i e l aV
   obtain⟨e',h⟩:=bg h
   subst e'
   refine⟨_,_,_,h,.inr ⟨id,e,l,rfl,aV,fun M' hM'=> ?_⟩⟩
   obtain⟨M2,_,hV,EP⟩:=Tr.freeze hm aV
   have:M'=M2:=by funext b;exact propext ((hM' b).trans (EP b).symm)
   rw[this];exact hV
  ·rename_i e l aV
   obtain⟨e',h⟩:=bg h
   subst e'
   have:=hm.jr id _ aV
   simp only[ER]at this
   exact⟨_,_,_,h,.inl ⟨rfl,V.slice.2 this.1⟩⟩
  ·cases h
 ·cases h
theorem QN{H:Nat→Option aS}(hm:Mem c H w M ν): ∀{a:Ty} {x:bb} {v:Value} {k:a.den→List Nat→fN→Option α} {r:α},VR w M H ν x v→xJ x H a k=some r→
  ∃y rd ups,k y rd ups=some r∧(ups=[]→VR w M (fun _=>none) (fun _=>undef) (xK a y) v):=by
 intro a x v k r hv h
 unfold xJ at h
 split at h
 ·rename_i a k
  split at h
  ·rename_i υ z
   obtain⟨e1,h⟩:=bg h
   subst e1
   refine⟨_,_,_,h,fun _=> ?_⟩
   simp only[xK,VR]at hv ⊢
   exact hv
  ·cases h
 ·rename_i k0 pU
  obtain⟨y,rd,ups,h,hy⟩:=zD hm hv h
  refine⟨y,rd,ups,h,fun hu=> ?_⟩
  rcases hy with⟨_,hy⟩|⟨_,_,_,h3,_⟩
  ·have:xK _ y= .val _ y:=by
    unfold xK
    split
    ·exact(pU _ _ rfl HEq.rfl).elim
    ·rfl
   rw[this]
   simp only[VR];exact hy
  ·rw[hu]at h3;cases h3
theorem Ar{H:Nat→Option aS}(hm:Mem c H w M ν): ∀{τ:Ty} {m6:List bb} {vs:List Value} {k:τ.den→List Nat→fN→Option α} {r:α},fX w M H ν m6 vs→nM H τ m6 k=some r→
  ∃x rd ups,k x rd ups=some r∧(ups=[]→fX w M (fun _=>none) (fun _=>undef) (mY τ x) vs)
 | .unit,[],[],k,r,_,h=>⟨(),[],[],h,fun _=>by simp[mY,fX]⟩
 | .pair a b,x::xs,v::vs,k,r,hv,h=>by
  simp only[fX]at hv
  unfold nM at h
  obtain⟨y,rd,ups,h,hy⟩:=QN hm hv.1 h
  obtain⟨ys,wU,kT,h,hys⟩:=Ar hm hv.2 h
  refine⟨(y,ys),_,_,h,fun hu=> ?_⟩
  have h1:ups=[]:=(aBW.1 hu).1
  have h2:kT=[]:=(aBW.1 hu).2
  simp only[mY,fX]
  exact⟨hy h1,hys h2⟩
 | .unit,[],_::_,_,_,hv,_=>by simp[fX]at hv
 |_,_::_,[],_,_,hv,_=>by simp[fX]at hv
 | .unit,_::_,_,_,_,_,h=>by simp[nM]at h
 | .pair _ _,[],_,_,_,_,h=>by simp[nM]at h
 | .int _,_,_,_,_,_,h| .bool,_,_,_,_,_,h| .str,_,_,_,_,_,h| .slice _,_,_,_,_,_,h| .arr _ _,_,_,_,_,_,h=>by simp[nM]at h
end VM
end
section
namespace VM
open Go
variable{P:Program}{E:Env}{o:Oper}{a:Act}{w:World}{M:Nat→Prop}{ν:Nat→Value}{σ:St}{c:Ctx}{α:Type}{r:α}{next:Act→World→Prop}{Q:Exit→Act→World→Prop}
def keys{β:Type}(l:List (Nat×β)):List Nat:=l.map (·.1)
theorem kb{i:Nat}: ∀{ups:fN} {H:Nat→Option aS},i∉keys ups→ch H ups i=H i
 |[],_,_=>rfl
 |u::r,H,h=>by
  simp only[keys,ay6,ayY,not_or]at h
  show ch (bz H u.1 u.2) r i=_
  rw[kb h.2,an _ _ h.1]
theorem vw(u:Nat×Option aS)(b:fN)(hb:u.1∉keys b): ∀(a:fN) (H:Nat→Option aS),ch H (a++u::b)=bz (ch H (a++b)) u.1 u.2
 |[],H=>by
  show ch (bz H u.1 u.2) b=bz (ch H b) u.1 u.2
  induction b generalizing H with
  |nil=>rfl
  |cons v b ih=>
   simp only[keys,ay6,ayY,not_or]at hb
   show ch (bz (bz H u.1 u.2) v.1 v.2) b=bz (ch (bz H v.1 v.2) b) u.1 u.2
   rw[←ih hb.2]
   congr 1
   funext i
   by_cases h1:i=v.1
   ·subst h1;rw[al,an _ _ (aAu hb.1),al]
   ·by_cases h2:i=u.1
    ·subst h2;rw[an _ _ h1,al,al]
    ·rw[an _ _ h1,an _ _ h2,an _ _ h2,an _ _ h1]
 |v::a,H=>vw u b hb a (bz H v.1 v.2)
structure iG(c:Ctx)(w:World)(M:Nat→Prop)(ν:Nat→Value)(H0 H1 Hq:Nat→Option aS)(M1:Nat→Prop)(uo uf:fN)(io:List (Nat×Ty))(hs:List Nat):Prop where
 mem:Mem c H1 w M1 ν
 Oh:Mem c Hq w M ν
 bD:dy w M w M1
 ext: ∀i,i∉keys io→ch H0 (uo++uf) i=H1 i
 UI: ∀i,i∉keys io→ch H0 uo i=Hq i
 T7: ∀q∈io,H1 q.1=some .gone∧Hq q.1=some .gone∧ ∃x,H0 q.1=some (.obj q.2 x)
 ion:(keys io).Nodup
 ks: ∀i∈keys (uo++uf),∀e l,H1 i≠some (.own e l)
 ksn: ∀i∈keys (uo++uf),i∉keys io∧ ∃e l,H0 i=some (.own e l)
 fz:Fz Hq H1
 uov: ∀u∈uo,u.2=some .gone
 ufv: ∀u∈uf,∃e l,u.2=some (.lF e l)∧H0 u.1=some (.own e l)
 nd:hs.Nodup
 hM: ∀b∈hs,M1 b
 KZ: ∀b∈hs,c.B≤b∨c.may b
 none: ∀b∈hs,∀i e,Hq i=some e→e.mut→eJ (ν i)≠some b
 iob: ∀b∈hs,c.M0 b→ ∃q∈io,eJ (ν q.1)=some b
 same: ∀i,i∉keys (uo++uf)→i∉keys io→H1 i=H0 i
theorem iG.start{H:Nat→Option aS}(hm:Mem c H w M ν):iG c w M ν H H H M [] [] [] []:=
 ⟨hm,hm,.refl w M,fun _ _=>rfl,fun _ _=>rfl,fun q hq=>by simp at hq,by simp[keys],fun i hi=>by simp[keys]at hi,fun i hi=>by simp[keys]at hi,.refl H,fun u hu=>by simp at hu,fun u hu=>by simp at hu,by simp,fun b hb=>by simp at hb,fun b hb=>by simp at hb,fun b hb=>by simp at hb,fun b hb=>by simp at hb,fun _ _ _=>rfl⟩
theorem Fz.acD{H H1:Nat→Option aS}(h:Fz H H1){i:Nat}{e:Ty}{l:List e.den}(hi:H1 i=some (.own e l)):H i=some (.own e l):=by
 rcases h i with h'|⟨e',l',_,h'⟩
 ·rw[←h',hi]
 ·rw[hi]at h';cases h'
theorem Fz.ahR{H H1:Nat→Option aS}(h:Fz H H1){i:Nat}{e:Ty}{l:e.den}(hi:H1 i=some (.obj e l)):H i=some (.obj e l):=by
 rcases h i with h'|⟨e',l',_,h'⟩
 ·rw[←h',hi]
 ·rw[hi]at h';cases h'
theorem Fz.mut{H H1:Nat→Option aS}(h:Fz H H1){i:Nat}{e:aS}(hi:H1 i=some e)(hm:e.mut):H i=some e:=by
 cases e with
 |obj=>exact h.ahR hi
 |ej=>
  rcases h i with h'|⟨e',l',_,h'⟩
  ·rw[←h',hi]
  ·rw[hi]at h';cases h'
 |own=>exact h.acD hi
 |lF=>simp[aS.mut]at hm
 |gone=>simp[aS.mut]at hm
theorem iG.freeze{H0 H1 Hq:Nat→Option aS}{M1:Nat→Prop}{uo uf:fN}{io:List (Nat×Ty)}{hs:List Nat}(h:iG c w M ν H0 H1 Hq M1 uo uf io hs){id:Nat}{e:Ty}{l:List e.den}(aV:H1 id=some (.own e l)):
  ∃M2,iG c w M ν H0 (bz H1 id (some (.lF e l))) Hq M2 uo ((id,some (.lF e l))::uf) io hs∧dy w M1 w M2∧(∀b,M2 b↔(M1 b∧eJ (ν id)≠some b)):=by
 obtain⟨M2,fg,_,EP⟩:=Tr.freeze h.mem aV
 have s6:id∉keys io:=fun hk=>by
  obtain⟨q,hq,rfl⟩:=azp.1 hk
  have:=(h.T7 q hq).1
  rw[aV]at this;cases this
 have UJ:id∉keys (uo++uf):=fun hk=>h.ks id hk e l aV
 have acE:id∉keys uf:=fun hk=>UJ (by simp only[keys,aze,ayU];exact .inr hk)
 have h0:H0 id=some (.own e l):=by rw[←h.same id UJ s6];exact aV
 have hq:Hq id=some (.own e l):=h.fz.acD aV
 have m8: ∀i,i∈keys (uo++(id,some (aS.lF e l))::uf)↔i=id∨i∈keys (uo++uf):=by
  intro i
  simp only[keys,aze,ay6,ayU,ayY]
  constructor
  ·rintro(h|h|h)
   ·exact .inr (.inl h)
   ·exact .inl h
   ·exact .inr (.inr h)
  ·rintro(h|h|h)
   ·exact .inr (.inl h)
   ·exact .inl h
   ·exact .inr (.inr h)
 refine⟨M2,⟨fg.mem,h.Oh,h.bD.trans fg.bD,fun i hi=> ?_,h.UI,fun q oH=> ?_,h.ion,fun i hi e' l'=> ?_,fun i hi=> ?_,fun i=> ?_,h.uov,fun u hu=> ?_,h.nd,fun b hb=> ?_,h.KZ,h.none,h.iob,fun i hi lR=> ?_⟩,fg.bD,EP⟩
 ·rw[vw _ _ acE]
  by_cases bC:i=id
  ·subst bC;rw[al,al]
  ·rw[an _ _ bC,an _ _ bC];exact h.ext i hi
 ·obtain⟨h1,h2,h3⟩:=h.T7 q oH
  have gq:q.1≠id:=fun e=>s6 (e▸azi oH)
  exact⟨by rw[an _ _ gq];exact h1,h2,h3⟩
 ·by_cases bC:i=id
  ·subst bC;rw[al];intro h';cases h'
  ·rw[an _ _ bC]
   exact h.ks i (((m8 i).1 hi).resolve_left bC) e' l'
 ·rcases(m8 i).1 hi with rfl|hi
  ·exact⟨s6,e,l,h0⟩
  ·exact h.ksn i hi
 ·by_cases bC:i=id
  ·subst bC;exact .inr ⟨e,l,hq,al _ _ _⟩
  ·rw[an _ _ bC];exact h.fz i
 ·rcases ayY.1 hu with rfl|hu
  ·exact⟨e,l,rfl,h0⟩
  ·exact h.ufv u hu
 ·exact(EP b).2 ⟨h.hM b hb,fun dN=>h.none b hb id _ hq trivial dN⟩
 ·have gq:i≠id:=fun e=>hi ((m8 i).2 (.inl e))
  rw[an _ _ gq]
  exact h.same i (fun h'=>hi ((m8 i).2 (.inr h'))) lR
theorem iG.hand{H0 H1 Hq:Nat→Option aS}{M1:Nat→Prop}{uo uf:fN}{io:List (Nat×Ty)}{hs:List Nat}(h:iG c w M ν H0 H1 Hq M1 uo uf io hs){id:Nat}{e:Ty}{l:List e.den}(aV:H1 id=some (.own e l)):
  iG c w M ν H0 (bz H1 id (some .gone)) (bz Hq id (some .gone)) M1 ((id,some .gone)::uo) uf io (hs++(eJ (ν id)).toList):=by
 have s6:id∉keys io:=fun hk=>by
  obtain⟨q,hq,rfl⟩:=azp.1 hk
  have:=(h.T7 q hq).1
  rw[aV]at this;cases this
 have UJ:id∉keys (uo++uf):=fun hk=>h.ks id hk e l aV
 have acE:id∉keys uo:=fun hk=>UJ (by simp only[keys,aze,ayU];exact .inl hk)
 have h0:H0 id=some (.own e l):=by rw[←h.same id UJ s6];exact aV
 have hq:Hq id=some (.own e l):=h.fz.acD aV
 have m8: ∀i,i∈keys ((id,some aS.gone)::uo++uf)↔i=id∨i∈keys (uo++uf):=by
  intro i
  simp only[keys,aze,ay6,azY,ayU,ayY]
 have yY: ∀b,eJ (ν id)=some b→b∉hs:=fun b hb dN=>h.none b dN id _ hq trivial hb
 refine⟨(Tr.gone h.mem id).mem,(Tr.gone h.Oh id).mem,h.bD,fun i hi=> ?_,fun i hi=> ?_,fun q oH=> ?_,h.ion,fun i hi e' l'=> ?_,fun i hi=> ?_,fun i=> ?_,fun u hu=> ?_,h.ufv,?_,fun b hb=> ?_,fun b hb=> ?_,fun b hb i e' hi hm=> ?_,fun b hb hb0=> ?_,fun i hi lR=> ?_⟩
 ·have:=vw (id,some .gone) (uo++uf) UJ [] H0
  simp only[ay8]at this
  rw[azY,this]
  by_cases bC:i=id
  ·subst bC;rw[al,al]
  ·rw[an _ _ bC,an _ _ bC];exact h.ext i hi
 ·have:=vw (id,some .gone) uo acE [] H0
  simp only[ay8]at this
  rw[this]
  by_cases bC:i=id
  ·subst bC;rw[al,al]
  ·rw[an _ _ bC,an _ _ bC];exact h.UI i hi
 ·obtain⟨h1,h2,h3⟩:=h.T7 q oH
  have gq:q.1≠id:=fun e=>s6 (e▸azi oH)
  exact⟨by rw[an _ _ gq];exact h1,by rw[an _ _ gq];exact h2,h3⟩
 ·by_cases bC:i=id
  ·subst bC;rw[al];intro h';cases h'
  ·rw[an _ _ bC]
   exact h.ks i (((m8 i).1 hi).resolve_left bC) e' l'
 ·rcases(m8 i).1 hi with rfl|hi
  ·exact⟨s6,e,l,h0⟩
  ·exact h.ksn i hi
 ·by_cases bC:i=id
  ·subst bC;left;rw[al,al]
  ·rw[an _ _ bC,an _ _ bC];exact h.fz i
 ·rcases ayY.1 hu with rfl|hu
  ·rfl
  ·exact h.uov u hu
 ·refine aAD.2 ⟨h.nd,?_,fun x hx y hy=> ?_⟩
  ·cases eJ (ν id)<;>simp
  ·rw[azw]at hy
   intro hxy;subst hxy
   exact yY x hy hx
 ·rcases ayU.1 hb with hb|hb
  ·exact h.hM b hb
  ·rw[azw]at hb
   exact(h.mem.jr id _ aV).uq trivial hb
 ·rcases ayU.1 hb with hb|hb
  ·exact h.KZ b hb
  ·rw[azw]at hb
   exact h.mem.new id _ b aV trivial hb
 ·by_cases bC:i=id
  ·subst bC;rw[al]at hi;cases hi;simp[aS.mut]at hm
  ·rw[an _ _ bC]at hi
   rcases ayU.1 hb with hb|hb
   ·exact h.none b hb i e' hi hm
   ·rw[azw]at hb
    intro dN
    exact h.Oh.wO i id e' _ b bC hi hm hq trivial dN hb
 ·rcases ayU.1 hb with hb|hb
  ·exact h.iob b hb hb0
  ·rw[azw]at hb
   exact absurd hb0 (h.mem.u9 id e l b aV hb)
 ·have gq:i≠id:=fun e=>hi ((m8 i).2 (.inl e))
  rw[an _ _ gq]
  exact h.same i (fun h'=>hi ((m8 i).2 (.inr h'))) lR
theorem iG.acF{H0 H1 Hq:Nat→Option aS}{M1:Nat→Prop}{uo uf:fN}{io:List (Nat×Ty)}{hs:List Nat}(h:iG c w M ν H0 H1 Hq M1 uo uf io hs){id:Nat}{τ:Ty}{x:τ.den}(aV:H1 id=some (.obj τ x)):
  iG c w M ν H0 (bz H1 id (some .gone)) (bz Hq id (some .gone)) M1 uo uf (io++[(id,τ)]) (hs++(eJ (ν id)).toList):=by
 have s6:id∉keys io:=fun hk=>by
  obtain⟨q,hq,rfl⟩:=azp.1 hk
  have:=(h.T7 q hq).1
  rw[aV]at this;cases this
 have hq:Hq id=some (.obj τ x):=h.fz.ahR aV
 have UJ:id∉keys (uo++uf):=fun hk=>by
  have h1:=h.ext id s6
  obtain⟨_,e,l,h0⟩:=h.ksn id hk
  have key: ∀(ups:fN) (H:Nat→Option aS),(∀u∈ups,u.2=some .gone∨ ∃e l,u.2=some (.lF e l))→id∈keys ups→ch H ups id=some .gone∨ ∃e l,ch H ups id=some (.lF e l):=by
   intro ups
   induction ups with
   |nil=>intro H _ hk;simp[keys]at hk
   |cons u ups ih=>
    intro H hv hk
    by_cases T8:id∈keys ups
    ·exact ih _ (fun v QE=>hv v (ayK _ QE)) T8
    ·show ch (bz H u.1 u.2) ups id=_∨ ∃e l,ch (bz H u.1 u.2) ups id=_
     rw[kb T8]
     have hui:id=u.1:=by
      simp only[keys,ay6,ayY]at hk T8
      exact hk.resolve_right T8
     rw[hui,al]
     exact hv u ayN
  have:=key (uo++uf) H0 (fun u hu=>by
   rcases ayU.1 hu with hu|hu
   ·exact .inl (h.uov u hu)
   ·obtain⟨e,l,h',_⟩:=h.ufv u hu;exact .inr ⟨e,l,h'⟩) hk
  rw[h1,aV]at this
  rcases this with h'|⟨_,_,h'⟩<;>cases h'
 have h0:H0 id=some (.obj τ x):=by rw[←h.same id UJ s6];exact aV
 have m8: ∀i,i∈keys (io++[(id,τ)])↔i∈keys io∨i=id:=by
  intro i
  simp only[keys,aze,ay6,az2,ayU,ayY,List.not_mem_nil,or_false]
 have yY: ∀b,eJ (ν id)=some b→b∉hs:=fun b hb dN=>h.none b dN id _ hq trivial hb
 refine⟨(Tr.gone h.mem id).mem,(Tr.gone h.Oh id).mem,h.bD,fun i hi=> ?_,fun i hi=> ?_,fun q oH=> ?_,?_,fun i hi e' l'=> ?_,fun i hi=> ?_,fun i=> ?_,h.uov,h.ufv,?_,fun b hb=> ?_,fun b hb=> ?_,fun b hb i e' hi hm=> ?_,fun b hb hb0=> ?_,fun i hi lR=> ?_⟩
 ·rw[an _ _ (fun e=>hi ((m8 i).2 (.inr e)))];exact h.ext i (fun h'=>hi ((m8 i).2 (.inl h')))
 ·rw[an _ _ (fun e=>hi ((m8 i).2 (.inr e)))];exact h.UI i (fun h'=>hi ((m8 i).2 (.inl h')))
 ·rcases ayU.1 oH with oH|oH
  ·obtain⟨h1,h2,h3⟩:=h.T7 q oH
   have gq:q.1≠id:=fun e=>s6 (e▸azi oH)
   exact⟨by rw[an _ _ gq];exact h1,by rw[an _ _ gq];exact h2,h3⟩
  ·rw[ay0]at oH;subst oH
   exact⟨al _ _ _,al _ _ _,x,h0⟩
 ·simp only[keys,aze,ay6,az2]
  refine aAD.2 ⟨h.ion,by simp,fun x hx y hy=> ?_⟩
  rw[ay0]at hy;subst hy
  intro e;exact s6 (e▸hx)
 ·by_cases bC:i=id
  ·subst bC;rw[al];intro h';cases h'
  ·rw[an _ _ bC];exact h.ks i hi e' l'
 ·obtain⟨h1,h2⟩:=h.ksn i hi
  exact⟨fun h'=>((m8 i).1 h').elim h1 (fun e=>UJ (e▸hi)),h2⟩
 ·by_cases bC:i=id
  ·subst bC;left;rw[al,al]
  ·rw[an _ _ bC,an _ _ bC];exact h.fz i
 ·refine aAD.2 ⟨h.nd,?_,fun x hx y hy=> ?_⟩
  ·cases eJ (ν id)<;>simp
  ·rw[azw]at hy
   intro hxy;subst hxy
   exact yY x hy hx
 ·rcases ayU.1 hb with hb|hb
  ·exact h.hM b hb
  ·rw[azw]at hb
   exact(h.mem.jr id _ aV).uq trivial hb
 ·rcases ayU.1 hb with hb|hb
  ·exact h.KZ b hb
  ·rw[azw]at hb
   exact h.mem.new id _ b aV trivial hb
 ·by_cases bC:i=id
  ·subst bC;rw[al]at hi;cases hi;simp[aS.mut]at hm
  ·rw[an _ _ bC]at hi
   rcases ayU.1 hb with hb|hb
   ·exact h.none b hb i e' hi hm
   ·rw[azw]at hb
    intro dN
    exact h.Oh.wO i id e' _ b bC hi hm hq trivial dN hb
 ·rcases ayU.1 hb with hb|hb
  ·obtain⟨q,hq1,hq2⟩:=h.iob b hb hb0
   exact⟨q,ayZ _ hq1,hq2⟩
  ·rw[azw]at hb
   exact⟨(id,τ),by simp,hb⟩
 ·have gq:i≠id:=fun e=>lR ((m8 i).2 (.inr e))
  rw[an _ _ gq]
  exact h.same i hi (fun h'=>lR ((m8 i).2 (.inl h')))
end VM
end
section
namespace VM
open Go
variable{P:Program}{E:Env}{o:Oper}{a:Act}{w:World}{M:Nat→Prop}{ν:Nat→Value}{σ:St}{c:Ctx}{α:Type}{r:α}{next:Act→World→Prop}{Q:Exit→Act→World→Prop}
theorem pC.upd{H:Nat→Option aS}{id:Nat}{e e':aS}(aV:H id=some e)(hl:e.iE e'):pC H ν (bz H id (some e')) ν:=
 ⟨fun i e1 hi=>by
  by_cases bC:i=id
  ·subst bC;rw[aV]at hi;cases hi;exact⟨e',al _ _ _,hl⟩
  ·exact⟨e1,by rw[an _ _ bC];exact hi,.refl e1⟩,fun _ _=>rfl⟩
theorem aS.kY(e:aS):e.iE .gone:=by cases e<;>simp[aS.iE]
theorem VR.ahT{H H':Nat→Option aS}{ν':Nat→Value}{a:Ty}{x:a.den}{v:Value}(h:VR w M H ν (xK a x) v):VR w M H' ν' (xK a x) v:=by
 unfold xK at h ⊢
 split at h
 ·simp only[VR]at h ⊢;exact h
 ·simp only[VR]at h ⊢;exact h
theorem fX.free{H H':Nat→Option aS}{ν':Nat→Value}: ∀{τ:Ty} {x:τ.den} {vs:List Value},fX w M H ν (mY τ x) vs→fX w M H' ν' (mY τ x) vs
 | .pair a b,x,v::vs,h=>by
  simp only[mY,fX]at h ⊢
  exact⟨VR.ahT h.1,fX.free h.2⟩
 | .pair a b,x,[],h=>by simp[mY,fX]at h
 | .int _,_,[],_| .bool,_,[],_| .str,_,[],_| .slice _,_,[],_| .unit,_,[],_| .arr _ _,_,[],_=>by simp[mY,fX]
 | .int _,_,_::_,h| .bool,_,_::_,h| .str,_,_::_,h| .slice _,_,_::_,h| .unit,_,_::_,h| .arr _ _,_,_::_,h=>by simp[mY,fX]at h
theorem xU{H0 H1 Hq:Nat→Option aS}{M1:Nat→Prop}{uo uf:fN}{io:List (Nat×Ty)}{hs:List Nat}(h:iG c w M ν H0 H1 Hq M1 uo uf io hs){m:AM}{x:bb}{v:Value}(hv:VR w M1 H1 ν x v)
  {k:m.den→(Nat→Option aS)→List Nat→fN→fN→List (Nat×Ty)→Option α} (hk:lP m x H1 k=some r):
  ∃y H2 rd Gn Gp Cm Qh M2,k y H2 rd Gn Gp Cm=some r∧iG c w M ν H0 H2 Qh M2 (Gn++uo) (Gp++uf) (io++Cm) (hs++cN m v)∧dy w M1 w M2∧pC H1 ν H2 ν∧A1 w M2 m y v∧
   Cm.map (fun q=>ν q.1)=(if m.fY then [v]else [])∧Cm.map (·.2)=lT [m]:=by
 unfold lP at hk
 split at hk
 ·
  rename_i τ k
  obtain⟨y,rd,ups,hk,hy⟩:=zD h.mem hv hk
  rcases hy with⟨rfl,hV⟩|⟨id,e,l,rfl,aV,hV⟩
  ·exact⟨y,H1,rd,[],[],[],Hq,M1,hk,by simpa [cN]using h,.refl w M1,.refl H1 ν,hV,rfl,rfl⟩
  ·obtain⟨M2,hA,hK,EP⟩:=h.freeze aV
   exact⟨y,_,rd,[],_,[],Hq,M2,hk,by simpa [cN]using hA,hK,.upd aV ⟨rfl,rfl⟩,hV M2 EP,rfl,rfl⟩
 ·
  rename_i e k
  split at hk
  ·obtain⟨ad,hv⟩:=VR.emp.1 hv
   subst hv
   have hb:eJ (.slice ad 0 0)=none:=by cases ad<;>simp[eJ]
   exact⟨[],H1,[],[],[],[],Hq,M1,hk,by simpa [cN,hb]using h,.refl w M1,.refl H1 ν,by simp only[A1,ER];exact .inl ⟨trivial,ad,rfl⟩,rfl,rfl⟩
  ·rename_i id
   split at hk
   ·rename_i e' l aV
    obtain⟨e1,hk⟩:=bg hk
    cases e1
    simp only[VR]at hv
    obtain⟨_,rfl⟩:=hv
    refine⟨_,_,_,_,_,_,_,M1,hk,by simpa [cN]using h.hand aV,.refl w M1,.upd aV (aS.kY _),?_,rfl,rfl⟩
    have:=h.mem.jr id _ aV
    exact this
   ·cases hk
  ·cases hk
 ·
  rename_i τ k
  split at hk
  ·rename_i id
   split at hk
   ·rename_i υ z aV
    obtain⟨e1,hk⟩:=bg hk
    subst e1
    simp only[VR]at hv
    obtain⟨e,he,kJ⟩:=hv
    rw[aV]at he;cases he
    simp only[AR]at kJ
    obtain⟨_,b,hb,hv⟩:=kJ
    have QO:v=ν id:=by rw[hv,hb];rfl
    subst QO
    refine⟨_,_,_,_,_,_,_,M1,hk,by simpa [cN]using h.acF aV,.refl w M1,.upd aV (aS.kY _),?_,rfl,rfl⟩
    have:=h.mem.jr id _ aV
    exact this
   ·cases hk
  ·cases hk
 ·
  rename_i f τ k
  split at hk
  ·rename_i f' cs
   obtain⟨hf,hk1⟩:=bP hk
   clear hk
   have hf:=ay9 hf
   subst hf
   have hk:=hk1
   clear hk1
   simp only[VR]at hv
   obtain⟨us,rfl,UA⟩:=hv
   obtain⟨y,rd,ups,hk,hy⟩:=Ar h.mem UA hk
   split at hk
   ·exact⟨y,H1,rd,[],[],[],Hq,M1,hk,by simpa [cN]using h,.refl w M1,.refl H1 ν,by simp only[A1,VR];exact⟨us,rfl,hy rfl⟩,rfl,rfl⟩
   ·cases hk
  ·cases hk
 ·cases hk
 ·
  rename_i τ k
  split at hk
  ·rename_i υ z
   obtain⟨e1,hk⟩:=bg hk
   subst e1
   exact⟨_,H1,_,[],[],[],Hq,M1,hk,by simpa [cN]using h,.refl w M1,.refl H1 ν,by simp only[A1,VR]at hv ⊢;exact hv,rfl,rfl⟩
  ·cases hk
theorem xV{H0:Nat→Option aS}: ∀{ms:List AM} {m6:List bb} {vs:List Value} {H1 Hq:Nat→Option aS} {M1:Nat→Prop} {rd:List Nat} {uo uf:fN} {io:List (Nat×Ty)} {hs:List Nat} {K:HP ms→List Nat→fN→fN→List (Nat×Ty)→Option α},
  iG c w M ν H0 H1 Hq M1 uo uf io hs→fX w M1 H1 ν m6 vs→pN ms m6 H1 rd uo uf io K=some r→
  ∃x wU Gn Gp Cm H2 Qh M2,K x wU Gn Gp Cm=some r∧iG c w M ν H0 H2 Qh M2 Gn Gp Cm (hs++cW ms vs)∧dy w M1 w M2∧gr w M2 ms x vs∧
   Cm.map (fun q=>ν q.1)=io.map (fun q=>ν q.1)++dK ms vs∧Cm.map (·.2)=io.map (·.2)++lT ms
 |[],[],[],H1,Hq,M1,rd,uo,uf,io,hs,K,h,_,hk=>
  ⟨(),rd,uo,uf,io,H1,Hq,M1,hk,by simpa [cW]using h,.refl w M1,rfl,by simp[dK],by simp[lT]⟩
 |[m],[x],[v],H1,Hq,M1,rd,uo,uf,io,hs,K,h,hv,hk=>by
  simp only[fX,az4]at hv
  obtain⟨y,H2,rd1,uo1,uf1,io1,Qh,M2,hk,hA,hK,hG,hy,UK,Qi⟩:=xU h hv (hk:lP m x H1 _=some r)
  refine⟨y,_,_,_,_,H2,Qh,M2,hk,by simpa [cW]using hA,hK,⟨v,[],rfl,hy,rfl⟩,?_,?_⟩
  ·rw[aze,UK];cases s6:m.fY<;>simp[dK,s6]
  ·rw[aze,Qi]
 |m::n::ms,x::xs,v::vs,H1,Hq,M1,rd,uo,uf,io,hs,K,h,hv,hk=>by
  simp only[fX]at hv
  obtain⟨y,H2,rd1,uo1,uf1,io1,Qh,M2,hk,hA,hK,hG,hy,UK,Qi⟩:=xU h hv.1 (hk:lP m x H1 _=some r)
  obtain⟨ys,wU,Gn,Gp,Cm,H3,Hq3,M3,hk,hA',hK',hys,hi3,hi4⟩:=xV (ms:=n::ms) hA (fX.bD hK hG hv.2) hk
  refine⟨(y,ys),_,_,_,_,H3,Hq3,M3,hk,by simpa [cW,ayP]using hA',hK.trans hK',⟨v,vs,rfl,?_,hys⟩,?_,?_⟩
  ·refine A1.sj hK' (fun b hb=>⟨rfl,hA'.hM b ?_⟩) hy
   exact ayZ _ (ay3 _ hb)
  ·rw[hi3,aze,UK,ayP]
   congr 1
   cases s6:m.fY<;>simp[dK,s6]
  ·rw[hi4,aze,Qi,ayP]
   congr 1
   cases m<;>simp[lT]
 |[],_::_,_,_,_,_,_,_,_,_,_,_,_,_,hk=>by simp[pN]at hk
 |[_],[],_,_,_,_,_,_,_,_,_,_,_,_,hk=>by simp[pN]at hk
 |[_],_::_::_,_,_,_,_,_,_,_,_,_,_,_,_,hk=>by simp[pN]at hk
 |_::_::_,[],_,_,_,_,_,_,_,_,_,_,_,_,hk=>by simp[pN]at hk
 |_,_::_,[],_,_,_,_,_,_,_,_,_,_,hv,_=>by simp[fX]at hv
 |[],[],_::_,_,_,_,_,_,_,_,_,_,_,hv,_=>by simp[fX]at hv
 |[_],[_],_::_::_,_,_,_,_,_,_,_,_,_,_,hv,_=>by simp[fX]at hv
end VM
end
