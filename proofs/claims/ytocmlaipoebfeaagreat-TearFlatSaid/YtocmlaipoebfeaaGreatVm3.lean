/- A part of the proof of TearFlat of layer 29: a machine that reads a function of the program as an equation between values. -/
import Derived.Test.YtocmlaipoebfeaaGreatVm2
import Derived.Great.FillDense
set_option linter.all false
section
namespace VM
open Go
variable{P:Program}{E:Env}{o:Oper}{a:Act}{w:World}{M:Nat→Prop}{ν:Nat→Value}{σ:St}{c:Ctx}{α:Type}{r:α}{next:Act→World→Prop}{Q:Exit→Act→World→Prop}
theorem Vs(off:Nat)(new:Array Value)(cs:Array Value)(h:off+new.size≤cs.size):
  (new.zipIdx.foldl (λcs (x:Value×Nat)=>cs.setIfInBounds (off+x.2) x.1) cs)=(fj cs.toList off new.toList).toArray:=by
 have h1:new.zipIdx.foldl (λcs (x:Value×Nat)=>cs.setIfInBounds (off+x.2) x.1) cs=(new.toList.zipIdx 0).foldl (λcs (x:Value×Nat)=>cs.setIfInBounds (off+x.2) x.1) cs:=by
  rw[←Array.foldl_toList,Array.toList_zipIdx]
 rw[h1]
 obtain⟨hs,hk⟩:=Great.foldl_set off new.toList 0 cs
 apply Array.ext_getElem?
 intro k
 rw[hk k,←gY (xs:=cs)]
 have hl:new.toList.length=new.size:=bJ
 have hc:cs.toList.length=cs.size:=bJ
 unfold fj
 rw[LK]
 by_cases h2:k<off
 ·rw[ah ω,bM,sC (by rw[bO];omega),List.getElem?_take_of_lt h2]
 ·by_cases h3:k<off+new.size
  ·rw[aj ω,sC (by rw[aT,bO];omega),oP (by rw[bO];omega),bO]
   congr 1
   omega
  ·rw[ah ω,oP (by rw[aT,bO];omega),aT,bO,mc]
   congr 1
   omega
theorem Ig{place:Nat→Option (Nat×Nat)}{cs:Array Value}{i:Nat}{v:Value}{rest:List (Nat×Value)}{off s:Nat}(hp:place i=some (off,s))(hs:v.cells.size=s)(h:off+s≤cs.size):
  Instr.fill place cs ((i,v)::rest)=Instr.fill place (fj cs.toList off v.cells.toList).toArray rest:=by
 have h1: ¬(decide (v.cells.size≠s)||decide (off+v.cells.size>cs.size))=true:=by simp[hs];omega
 conv=>lhs;unfold Instr.fill
 rw[hp]
 simp only
 rw[ah h1]
 congr 1
 exact Vs off v.cells cs ω
theorem uU(a:Act)(ps:Array (Nat×Operand)):(ps.map λ(i,x)=>(i,a.eval x)).toList=ps.toList.map λp=>(p.1,a.eval p.2):=by
 rw[Array.toList_map]
def PR(w:World)(M:Nat→Prop)(H:Nat→Option bh)(ν:Nat→Value):List (Nat×bD)→List (Nat×Value)→Prop
 |[],[]=>True
 |p::ps,q::qs=>p.1=q.1∧VR w M H ν p.2 q.2∧PR w M H ν ps qs
 |_,_=>False
theorem PR.cc{w':World}{M':Nat→Prop}{H H':Nat→Option bh}{ν':Nat→Value}(k:fh w M w' M')(g:s8 H ν H' ν'): ∀{ps:List (Nat×bD)} {qs:List (Nat×Value)},PR w M H ν ps qs→PR w' M' H' ν' ps qs
 |[],[],_=>trivial
 |_::_,_::_,h=>⟨h.1,h.2.1.cc k g,PR.cc k g h.2.2⟩
 |[],_::_,h=>h.elim
 |_::_,[],h=>h.elim
theorem Core.pr(hc:Core c σ a.tmps w M ν): ∀ps:List (Nat×Operand),PR w M σ.H ν (ps.map λp=>(p.1,σ.ρ p.2)) (ps.map λp=>(p.1,a.eval p.2))
 |[]=>trivial
 |p::ps=>⟨rfl,hc.ev p.2,hc.pr ps⟩
theorem Cu{e:Ty}{n:Nat}{H:Nat→Option bh}: ∀(ps:List (Nat×bD)) (qs:List (Nat×Value)) (H1:Nat→Option bh) (M:Nat→Prop) (l:List e.den) (cs:Array Value) (rd:List Nat) (ups:ja) (K:List e.den→List Nat→ja→Option α),
  Fz H H1→Mem c H1 w M ν→PR w M H1 ν ps qs→l.length=n→cs.size=n*e.size→q5 w M e cs.toList l→H1=cY H ups→wA e H n ps l rd ups K=some r→
  ∃l' Bj ot M' cs',K l' Bj ot=some r∧Tr c H1 w M ν (cY H ot) w M' ν∧Fz H (cY H ot)∧l'.length=n∧cs'.size=n*e.size∧q5 w M' e cs'.toList l'∧
   Instr.fill (λi=>some (i*e.size,e.size)) cs qs=some cs':=by
 intro ps
 induction ps with
 |nil=>
  intro qs H1 M l cs rd ups K hz hm hp hl hs hr hH h
  cases qs with
  |cons _ _=>exact hp.elim
  |nil=>exact⟨l,rd,ups,M,cs,h,hH▸Tr.refl hm,hH▸hz,hl,hs,hr,rfl⟩
 |cons p ps ih=>
  intro qs H1 M l cs rd ups K hz hm hp hl hs hr hH h
  cases qs with
  |nil=>exact hp.elim
  |cons q qs=>
   obtain⟨h1,h2,h3⟩:=hp
   unfold wA at h
   obtain⟨hb,h⟩:=cB h
   have fA:p.1<n:=by simpa [zJ]using hb
   obtain⟨y,rd1,PZ,M1,h,ix,hV,Cv,_⟩:=ov hz hm h2 h
   have hlen:(q.2.cells).size=e.size:=by rw[←bJ];exact hV.cells.length
   have hmul:=eH (s:=e.size) fA
   have yc:=q5.set (hr.cc ix.cc) (by rw[hl,bJ,hs];exact aI _) (i:=p.1) ω hV.cells
   obtain⟨l',Bj,ot,M',cs',hK,ag4,Dm,JF,RD,eZ,hf⟩:=ih qs (cY H1 PZ) M1 (l.set p.1 y) (fj cs.toList (p.1*e.size) q.2.cells.toList).toArray (rd1++rd) (ups++PZ) K Cv ix.mem (h3.cc ix.cc ix.goes)
    (by rw[bB];exact hl) (by rw[je,gK (by rw[bJ,bJ];omega),bJ,hs]) yc (by rw[gw,hH]) h
   refine⟨l',Bj,ot,M',cs',hK,ix.trans ag4,Dm,JF,RD,eZ,?_⟩
   rw[Ig (off:=p.1*e.size) (s:=e.size) (by rw[h1]) hlen ω]
   exact hf
theorem JQ{τ:Ty}{H:Nat→Option bh}{place:Nat→Option (Nat×Nat)}(Dr: ∀(x:τ.den) n υ y o,Dh τ x n υ y o→place n=some (o,υ.size)):
  ∀(ps:List (Nat×bD)) (qs:List (Nat×Value)) (H1:Nat→Option bh) (M:Nat→Prop) (x:τ.den) (cs:Array Value) (rd:List Nat) (ups:ja) (K:τ.den→List Nat→ja→Option α),
  Fz H H1→Mem c H1 w M ν→PR w M H1 ν ps qs→Rd w M τ cs.toList x→H1=cY H ups→uQ τ H ps x rd ups K=some r→
  ∃x' Bj ot M' cs',K x' Bj ot=some r∧Tr c H1 w M ν (cY H ot) w M' ν∧Fz H (cY H ot)∧Rd w M' τ cs'.toList x'∧Instr.fill place cs qs=some cs'∧
   ∀m υ,Jz τ m=some υ→(ps.all λp=> !(Nat.beq p.1 m))=true→(cs'.toList.drop (sf τ m)).take υ.size=(cs.toList.drop (sf τ m)).take υ.size:=by
 intro ps
 induction ps with
 |nil=>
  intro qs H1 M x cs rd ups K hz hm hp hr hH h
  cases qs with
  |cons _ _=>exact hp.elim
  |nil=>exact⟨x,rd,ups,M,cs,h,hH▸Tr.refl hm,hH▸hz,hr,rfl,λ_ _ _ _=>rfl⟩
 |cons p ps ih=>
  intro qs H1 M x cs rd ups K hz hm hp hr hH h
  cases qs with
  |nil=>exact hp.elim
  |cons q qs=>
   obtain⟨h1,h2,h3⟩:=hp
   unfold uQ at h
   obtain⟨υ,y0,of,hf,h⟩:=tP h
   obtain⟨y,rd1,PZ,M1,h,ix,hV,Cv,_⟩:=ov hz hm h2 h
   obtain⟨υ',y',o',k',Bk,jW,Hv⟩:=sJ h
   obtain⟨rfl,rfl⟩:=Bk.eq
   obtain⟨rfl,rfl⟩:=hf.eq
   obtain⟨e1,Ih⟩:=bC jW
   obtain⟨x',pK,_,lh⟩:=Hv _ _ Ih
   have hlen:(q.2.cells).size=(vS τ p.1).size:=by rw[←bJ];exact hV.cells.length
   have hb:=hf.bound
   have Ma:=hr.length
   rw[bJ]at Ma
   obtain⟨x2,Bj,ot,M',cs',hK,ag4,Dm,eZ,S1,P0⟩:=ih qs (cY H1 PZ) M1 x' (fj cs.toList (sf τ p.1) q.2.cells.toList).toArray (rd1++rd) (ups++PZ) K Cv ix.mem (h3.cc ix.cc ix.goes)
    (lh w M1 _ _ (hr.cc ix.cc) hV.cells) (by rw[gw,hH]) pK
   refine⟨x2,Bj,ot,M',cs',hK,ix.trans ag4,Dm,eZ,?_,λm υ jW lM=> ?_⟩
   ·rw[Ig (off:=sf τ p.1) (s:=(vS τ p.1).size) (by rw[←h1];exact Dr _ _ _ _ _ hf) hlen ω]
    exact S1
   ·rw[EK,bP]at lM
    rw[P0 m υ jW lM.2]
    obtain⟨y2,o2,hf2⟩:=tQ jW x
    obtain⟨e3,e4⟩:=hf2.eq
    subst e3 e4
    have iI:p.1≠m:=λe=>by have:=lM.1;rw[e,tK]at this;cases this
    have hap:=hf.apart hf2 iI
    have tU:=hf2.bound
    show((fj cs.toList (sf τ p.1) q.2.cells.toList).drop _).take _=_
    rw[JH (by rw[bJ];omega) (by rw[bJ,bJ];omega)]
theorem fR.places: ∀(τ:Ty) (fs:Array Field) (n off:Nat),fR P τ (.inr (fs,n,off))→
  ∃ps,(fs.toList.drop n).mapM (λf=>(P.info? f.type).map λi=>(f.offset,i.size))=some ps∧ ∀(x:τ.den) m υ y o,Dh τ x m υ y o→ps[m]? =some (off+o,υ.size)
 | .unit,fs,n,off,h=>by
  simp only[fR]at h
  refine⟨[],?_,λx m υ y o hf=>by cases hf⟩
  rw[kJ (by rw[bJ];omega)];rfl
 | .pair t b,fs,n,off,h=>by
  simp only[fR]at h
  obtain⟨f,hf,ho,ha,hb⟩:=h
  obtain⟨ps,JR,S1⟩:=fR.places b fs (n+1) (off+t.size) hb
  obtain⟨i,hi,hs,_⟩:=(show kO P t f.type from ha).base
  have fA:n<fs.toList.length:=by rw[bJ];exact(kI.1 hf).1
  have hfe:fs.toList[n]=f:=by rw[zt];exact(kI.1 hf).2
  refine⟨(off,t.size)::ps,?_,λx m υ y o Bk=> ?_⟩
  ·rw[lX fA,zE,JR,hfe,hi]
   simp[ho,hs]
  ·cases Bk with
   |here=>simp
   |there _ h'=>simp[S1 _ _ _ _ _ h',o7]
 | .int _,_,_,_,h| .bool,_,_,_,h| .str,_,_,_,h| .slice _,_,_,_,h| .arr _ _,_,_,_,h=>by simp[fR]at h
theorem kO.places{τ:Ty}{t:TypeId}(h:kO P τ t)(ha:τ.isAgg=true)(hn: ∀n e,τ≠ .arr n e):
  ∃fs ps,P.underlying t=some (.struct fs)∧fs.toList.mapM (λf=>(P.info? f.type).map λi=>(f.offset,i.size))=some ps∧ ∀(x:τ.den) m υ y o,Dh τ x m υ y o→ps[m]? =some (o,υ.size):=by
 cases τ with
 |unit=>
  simp only[kO,fR]at h
  obtain⟨_,fs,hu,hs⟩:=h
  refine⟨fs,[],hu,?_,λx m υ y o hf=>by cases hf⟩
  have:fs.toList=[]:=uI (by rw[bJ];exact hs)
  rw[this];rfl
 |pair t' b=>
  simp only[kO,fR]at h
  obtain⟨_,fs,f,hu,hf,ho,ha',hb⟩:=h
  have hg:fR P (.pair t' b) (.inr (fs,0,0)):=by
   simp only[fR]
   exact⟨f,hf,ho,ha',by simpa using hb⟩
  obtain⟨ps,JR,S1⟩:=fR.places _ fs 0 0 hg
  exact⟨fs,ps,hu,JR,λx m υ y o Bk=>by simpa using S1 x m υ y o Bk⟩
 |arr n e=>exact absurd rfl (hn n e)
 |int _=>simp[Ty.isAgg]at ha
 |bool=>simp[Ty.isAgg]at ha
 |str=>simp[Ty.isAgg]at ha
 |slice _=>simp[Ty.isAgg]at ha
theorem z6{ρ:Operand→Value}{t:TypeId}{ps:Array (Nat×Operand)}(ho:o.op= .build t ps){v:Value}(h:(Instr.build t (ps.map λ(i,x)=>(i,ρ x))).run P w= .ok v w):(execOp ρ o).run P w= .ok (.value v) w:=by
 simp[execOp,ho,h]
theorem z7{ρ:Operand→Value}{t:TypeId}{n:Nat}{ps:Array (Nat×Operand)}(ho:o.op= .buildSlice t n ps){v:Value}{w':World}(h:(Instr.buildSlice t n (ps.map λ(i,x)=>(i,ρ x))).run P w= .ok v w'):(execOp ρ o).run P w= .ok (.value v) w':=by
 simp[execOp,ho,h]
theorem VR.RE{H:Nat→Option bh}{τ:Ty}(ha:τ.isAgg=true){cs:Array Value}{x:τ.den}(h:Rd w M τ cs.toList x):VR w M H ν (.val τ x) (.agg cs):=by
 simp only[VR,V];rw[aj ha];exact⟨cs,rfl,h⟩
theorem JS(hE:EnvTy P E)(hc:Core c σ a.tmps w M ν){t:TypeId}{ps:Array (Nat×Operand)}(ho:o.op= .build t ps){K:jf α}{n:Nat}{e:Ty}(ht:E.ty t=some (.arr n e))
  (h:wA e σ.H n (partsOf σ.ρ ps) (List.replicate n e.zero) [] [] (λl rd ups=>K (.val (.arr n e) l) rd ups)=some r) (hn:gi c σ a o w M ν K r next):o.wp P a w next Q:=by
 have hl:=hE.ty t _ ht
 obtain⟨e',hu,hle⟩:=hl.arr
 obtain⟨i,hi,hs,hz,_⟩:=hl.base
 obtain⟨ie,hie,hes,_⟩:=hle.base
 have YH:=Rd.arr.1 (Rd.zero w M (.arr n e))
 obtain⟨l',Bj,ot,M',cs',hK,ix,Dm,JF,RD,eZ,hf⟩:=Cu (partsOf σ.ρ ps) (ps.toList.map λ(p:Nat×Operand)=>(p.1,a.eval p.2)) σ.H M (List.replicate n e.zero) (Ty.dr (.arr n e)).toArray [] [] _ (.refl _) hc.mem (hc.pr ps.toList)
  (by rw[ck]) (by rw[je];exact YH.2.1) YH.2.2 rfl h
 refine a6 (z6 ho (run_build w t _ cs' ?_)) (hn _ _ _ _ _ _ _ hK ix (VR.RE rfl (Rd.arr.2 ⟨JF,by rw[bJ];exact RD,eZ⟩)))
 unfold Program.built
 rw[hi,hu]
 simp only[hz,hie,hes,uU]
 exact hf
theorem Ds(hE:EnvTy P E)(hc:Core c σ a.tmps w M ν){t:TypeId}{ps:Array (Nat×Operand)}(ho:o.op= .build t ps){K:jf α}{τ:Ty}(ht:E.ty t=some τ)(hna: ∀n e,τ≠ .arr n e)
  (h:cond τ.isAgg (uQ τ σ.H (partsOf σ.ρ ps) τ.zero [] [] (λl rd ups=>K (Y5 E (partsOf σ.ρ ps) τ l) rd ups)) none=some r) (hn:gi c σ a o w M ν K r next):o.wp P a w next Q:=by
 obtain⟨L4,h⟩:=cB h
 have hl:=hE.ty t _ ht
 obtain⟨fs,pl,hu,JR,Dr⟩:=hl.places L4 hna
 obtain⟨i,hi,hs,hz,_⟩:=hl.base
 obtain⟨l',Bj,ot,M',cs',hK,ix,Dm,eZ,hf,P0⟩:=JQ (place:=(pl.toArray[·]?)) (λx n υ y o hf=>by simpa using Dr x n υ y o hf) (partsOf σ.ρ ps) (ps.toList.map λ(p:Nat×Operand)=>(p.1,a.eval p.2)) σ.H M τ.zero τ.dr.toArray [] [] _ (.refl _) hc.mem (hc.pr ps.toList)
  (Rd.zero w M τ) rfl h
 have hvr:VR w M' (cY σ.H ot) ν (Y5 E (partsOf σ.ρ ps) τ l') (.agg cs'):=by
  unfold Y5
  split
  ·rename_i n e s9
   cases lM:(partsOf σ.ρ ps).all λp=> !(Nat.beq p.1 n)
   ·exact VR.RE L4 eZ
   ·have hq:=Ry s9
    show VR w M' (cY σ.H ot) ν (.JA τ l' n) (.agg cs')
    have hv:=VR.RE (H:=cY σ.H ot) (ν:=ν) L4 eZ
    simp only[VR]at hv ⊢
    refine⟨hv,cs',none,rfl,?_⟩
    have hfq:Jz τ n=some (.slice e):=by
     unfold gW at hq
     split at hq
     ·rename_i a ha
      rw[ha]
      have:=bF hq
      rw[this]
     ·cases hq
    have h2:=P0 n _ hfq lM
    have h3:=Ia hq
    simp only[cC,nr]at h3
    have h4:=eA (λl=>l[0]?) h2
    simp only[lZ,mc,nr]at h4
    rw[aj (show 0<(Ty.slice e).size from Nat.one_pos),aj (show 0<(Ty.slice e).size from Nat.one_pos)]at h4
    rw[h4];exact h3
  ·exact VR.RE L4 eZ
 refine a6 (z6 ho (run_build w t _ cs' ?_)) (hn _ _ _ _ _ _ _ hK ix hvr)
 unfold Program.built
 rw[hi,hu]
 have hzc:(cI τ τ.dr).cells=τ.dr.toArray:=by apply js;rw[g5]
 simp only[hz,JR,uU,hzc]
 exact hf
theorem Hy(hE:EnvTy P E)(hc:Core c σ a.tmps w M ν){t:TypeId}{n:Nat}{ps:Array (Nat×Operand)}(ho:o.op= .buildSlice t n ps){K:jf α}{e:Ty}(ht:E.ty t=some (.slice e)){id:Nat}
  (h:cond (Nat.ble (n*(e.size+1)) 16777216) (qX σ.H id (.own e []) (wA e σ.H n (partsOf σ.ρ ps) (List.replicate n e.zero) [] [] λl rd ups=>K (.ref id) (id::rd) (ups++[(id,some (.own e l))]))) none=some r)
  (hn:gi c σ a o w M ν K r next):o.wp P a w next Q:=by
 obtain⟨hb,h⟩:=cB h
 obtain⟨bm,h⟩:=lL h
 have hb:=Ez hb
 rw[Nat.mul_add,Nat.mul_one]at hb
 obtain⟨e',hu,hle⟩:=(hE.ty t _ ht).slice
 obtain⟨ie,hie,hes,hz,_⟩:=hle.base
 obtain⟨l',Bj,ot,M',cs',hK,ix,Dm,JF,RD,eZ,hf⟩:=Cu (partsOf σ.ρ ps) (ps.toList.map λ(p:Nat×Operand)=>(p.1,a.eval p.2)) σ.H M (List.replicate n e.zero) (madeCells (cI e e.dr).cells (n*e.size)) [] [] _ (.refl _) hc.mem (hc.pr ps.toList)
  (by rw[ck]) (size_madeCells _ _) (q5.made w M e (aI _)) rfl h
 have agT:cY σ.H ot id=none:=Dm.none bm
 have wI:=ix.trans (Tr.row ix.mem agT e' (e:=e) (cs:=cs') (l:=l') (cap:=n) ω (by simp[maxLen];omega) RD eZ)
 have dJ:(Instr.buildSlice t n (ps.map λ(i,x)=>(i,a.eval x))).run P w= .ok (.slice (some ⟨w.heap.size,0,none⟩) n n) (w.alloc (.cells cs' e')):=by
  by_cases h0:n*e.size=0
  ·rw[h0]at hf
   have hm0:madeCells (cI e e.dr).cells 0=(Array.range 0).map λi:Nat=>(#[]:Array Value)[i%0]! :=by simp[madeCells]
   rw[hm0]at hf
   rw[←uU]at hf
   simp[Instr.buildSlice,run_underlying hu,Go.sizeOf,typeInfo,hie,hes,h0,newRow]at hf ⊢
   simp[hf]
  ·refine run_buildSlice w t e' n _ cs' ie _ hu hie hz (by rw[hes];omega) (by rw[hes];exact h0) ?_
   rw[hes,uU]
   exact hf
 refine a6 (z7 ho dJ) (hn _ _ _ _ _ (λb=>M' b∨b=w.heap.size) (dp ν id (.slice (some ⟨w.heap.size,0,none⟩) l'.length n)) hK ?_ ?_)
 ·rw[gw];exact wI
 ·simp only[VR]
  exact⟨by rw[gw];show bT _ id _ id≠none;rw[ay];simp,by simp[dp,JF]⟩
end VM
end
section
namespace VM
open Go
variable{P:Program}{E:Env}{o:Oper}{a:Act}{w:World}{M:Nat→Prop}{ν:Nat→Value}{σ:St}{c:Ctx}{α:Type}{r:α}{next:Act→World→Prop}{Q:Exit→Act→World→Prop}
def YI(o:Option Value)(d l:Int):Prop:=(o=none∧l=d)∨ ∃k,o=some (.int k l)
theorem q7(hc:Core c σ a.tmps w M ν){x:Option Operand}{d:Int}{k:Int→Option α}(h:yF (x.map σ.ρ) d k=some r): ∃l,k l=some r∧YI (x.map a.eval) d l:=by
 cases x with
 |none=>exact⟨d,h,.inl ⟨rfl,rfl⟩⟩
 |some x=>
  obtain⟨i,n,hx,h⟩:=nA (h:wy (σ.ρ x) (λ_ x=>k x)=some r)
  have hv:=hc.ev x
  rw[hx]at hv
  exact⟨n,h,.inr ⟨i,by rw[←hv.int];rfl⟩⟩
theorem vG{s:Bool}{len cap:Nat}{lo hi mx:Option Value}{l h m:Int}(ye:YI lo 0 l)(Lh:YI hi len h)(PA:YI mx cap m)(hm:mx.isNone=true∨hi.isSome=true)
  (h0:0≤l) (h1:l≤h) (h2:h≤m) (h3:m≤cap):(Instr.sliceBounds s len cap lo hi mx).run P w= .ok (l.toNat,h.toNat,m.toNat) w:=by
 have hb: ∀(k:IntKind) (i:Int) (y:Nat) cd,0≤i→i≤y→(Instr.sliceBound (.int k i) y cd).run P w= .ok i.toNat w:=by
  intro k i y cd h1 h2
  simp[Instr.sliceBound,asIntOf,h1,h2]
 have jW:((m.toNat:Nat):Int)=m:=ω
 have hh':((h.toNat:Nat):Int)=h:=ω
 rcases PA with⟨rfl,rfl⟩|⟨km,rfl⟩
 ·rcases Lh with⟨rfl,rfl⟩|⟨kh,rfl⟩
  ·rcases ye with⟨rfl,rfl⟩|⟨kl,rfl⟩
   ·simp[Instr.sliceBounds]
   ·simp[Instr.sliceBounds,hb kl l len _ h0 h1]
  ·rcases ye with⟨rfl,rfl⟩|⟨kl,rfl⟩
   ·simp[Instr.sliceBounds,hb kh h cap _ ω h2]
   ·simp[Instr.sliceBounds,hb kh h cap _ ω h2,hb kl l h.toNat _ h0 ω]
 ·rcases Lh with⟨rfl,rfl⟩|⟨kh,rfl⟩
  ·simp at hm
  ·rcases ye with⟨rfl,rfl⟩|⟨kl,rfl⟩
   ·simp[Instr.sliceBounds,hb km m cap _ ω h3,hb kh h m.toNat _ ω ω]
   ·simp[Instr.sliceBounds,hb km m cap _ ω h3,hb kh h m.toNat _ ω ω,hb kl l h.toNat _ h0 ω]
theorem Hz{ρ:Operand→Value}{t:TypeId}{x:Operand}{lo hi mx:Option Operand}(ho:o.op= .slice t x lo hi mx){s:ByteArray}{l h:Int}(hu:P.underlying t=some .string)(hx:ρ x= .string s)
  (ye:YI (lo.map ρ) 0 l) (Lh:YI (hi.map ρ) s.size h) (PA:mx.isNone=true) (h0:0≤l) (h1:l≤h) (h2:h≤s.size):(execOp ρ o).run P w= .ok (.value (.string (s.extract l.toNat h.toNat))) w:=by
 have hm:mx=none:=by simpa using PA
 subst hm
 have hb:=vG (P:=P) (w:=w) (s:=false) ye Lh (.inl ⟨rfl,rfl⟩) (.inl rfl) h0 h1 h2 (fx _)
 simp[execOp,ho,hx,Instr.sliceAt,Instr.slice,run_underlying hu,hb]
theorem uV{ρ:Operand→Value}{t e:TypeId}{x:Operand}{lo hi mx:Option Operand}(ho:o.op= .slice t x lo hi mx){τ:Ty}{ad:Option Addr}{len cap:Nat}{l h m:Int}(hu:P.underlying t=some (.slice e))(hle:kO P τ e)(hx:ρ x= .slice ad len cap)
  (ye:YI (lo.map ρ) 0 l) (Lh:YI (hi.map ρ) len h) (PA:YI (mx.map ρ) cap m) (hm:(mx.map ρ).isNone=true∨(hi.map ρ).isSome=true) (h0:0≤l) (h1:l≤h) (h2:h≤m) (h3:m≤cap):
  (execOp ρ o).run P w= .ok (.value (.slice (if m.toNat=l.toNat then ad else ad.map (·.add (l.toNat*τ.size))) (h.toNat-l.toNat) (m.toNat-l.toNat))) w:=by
 have hb:=vG (P:=P) (w:=w) (s:=true) ye Lh PA hm h0 h1 h2 h3
 simp[execOp,ho,hx,Instr.sliceAt,Instr.slice,run_underlying hu,hb,dk hle]
theorem Cw{x:Option Operand}(h:mf x=true)(a:Act): ∃k,x.map a.eval=some (.int k 0):=by
 unfold mf at h
 split at h
 ·rename_i k n
  have:n=0:=by simpa using h
  subst this
  exact⟨k,rfl⟩
 ·cases h
theorem Rd.cut{e:Ty}{ad:Option Addr}{len cap:Nat}{x:List e.den}(h:Rd w M (.slice e) [.slice ad len cap] x){l hh m:Int}(h0:0≤l)(h1:l≤hh)(h2:hh≤m)(hl:hh≤x.length):
  Rd w M (.slice e) [.slice (if m.toNat=l.toNat then ad else ad.map (·.add (l.toNat*e.size))) (hh.toNat-l.toNat) (m.toNat-l.toNat)] (List.drop l.toNat (List.take hh.toNat x)):=by
 simp only[Rd,fv,ec]at h ⊢
 obtain⟨a',nB,hv,hc,hr⟩:=h
 cases hv
 have hlen:List.length (List.drop l.toNat (List.take hh.toNat x))=hh.toNat-l.toNat:=by rw[dI,bO];omega
 refine⟨_,_,by rw[hlen],by rw[hlen];omega,λi hi=> ?_⟩
 rw[hlen]at hi
 obtain⟨b,off,ha,hb,hm,cs,p6,lh⟩:=hr (l.toNat+i) ω
 rw[ah ω]
 refine⟨b,off+l.toNat*e.size,by rw[ha];simp[Addr.add_lit],hb,hm,cs,?_,?_⟩
 ·rw[show off+l.toNat*e.size+i*e.size=off+(l.toNat+i)*e.size from by rw[eG];omega];exact p6
 ·simp only[EB,zx,zy]at lh ⊢
  exact lh
theorem VR.emp{H:Nat→Option bh}{v:Value}:VR w M H ν .emp v↔ ∃ad,v= .slice ad 0 0:=by simp[VR]
theorem Vt(hE:EnvTy P E)(hc:Core c σ a.tmps w M ν){t:TypeId}{x:Operand}{lo hi mx:Option Operand}(ho:o.op= .slice t x lo hi mx){K:jf α}{τ:Ty}(ht:E.ty t=some τ)
  (h:qZ τ (lo.isNone&&mf hi&&mf mx) (σ.ρ x) (lo.map σ.ρ) (hi.map σ.ρ) (mx.map σ.ρ) σ.H K=some r) (hn:gi c σ a o w M ν K r next):o.wp P a w next Q:=by
 have zW:=hE.ty t τ ht
 have hv:=hc.ev x
 have RF: ∀(e:Ty) (e':TypeId) (ad:Option Addr) (len cap:Nat),P.underlying t=some (.slice e')→kO P e e'→a.eval x= .slice ad len cap→(lo.isNone&&mf hi&&mf mx)=true→
   ∃ad',(execOp a.eval o).run P w= .ok (.value (.slice ad' 0 0)) w:=by
  intro e e' ad len cap hu hle hx hz
  simp only[bP]at hz
  obtain⟨⟨h1,h2⟩,h3⟩:=hz
  have h1:lo=none:=by simpa using h1
  subst h1
  obtain⟨k2,h2⟩:=Cw h2 a
  obtain⟨k3,h3⟩:=Cw h3 a
  have:=uV (P:=P) (w:=w) ho hu hle hx (l:=0) (h:=0) (m:=0) (.inl ⟨rfl,rfl⟩) (.inr ⟨k2,h2⟩) (.inr ⟨k3,h3⟩) (.inr (by rw[h2];rfl)) ω ω ω ω
  exact⟨_,this⟩
 unfold qZ at h
 split at h
 ·rename_i s hx
  obtain⟨hm,h⟩:=cB h
  obtain⟨l,h,ye⟩:=q7 hc h
  obtain⟨hh,h,Lh⟩:=q7 hc h
  obtain⟨hk,h⟩:=cB h
  rw[zL]at hk
  obtain⟨h0,h1,h2,h3⟩:=bF hk
  rw[hx]at hv
  exact a6 (Hz ho zW.str hv.str ye Lh (by simpa using hm) h0 h1 h2) (hn _ [] [] _ _ _ _ h (.refl hc.mem) (.mkStr _))
 ·rename_i e hx
  obtain⟨e',hu,hle⟩:=zW.slice
  rw[hx]at hv
  obtain⟨ad,hv⟩:=VR.emp.1 hv
  cases hz:(lo.isNone&&mf hi&&mf mx)
  ·rw[hz]at h
   replace h:cond (mx.map σ.ρ).isNone (yF (lo.map σ.ρ) 0 λl=>yF (hi.map σ.ρ) 0 λh=>cond (jt l h 0 0) (K .emp [] []) none) none=some r:=h
   obtain⟨hm,h⟩:=cB h
   obtain⟨l,h,ye⟩:=q7 hc h
   obtain⟨hh,h,Lh⟩:=q7 hc h
   obtain⟨hk,hK⟩:=cB h
   rw[zL]at hk
   obtain⟨h0,h1,h2,h3⟩:=bF hk
   have jW:mx=none:=by simpa using hm
   subst jW
   have:=uV (P:=P) (w:=w) ho hu hle hv ye Lh (.inl ⟨rfl,rfl⟩) (.inl rfl) h0 h1 (m:=0) ω ω
   refine a6 this (hn _ [] [] _ _ _ _ hK (.refl hc.mem) (VR.emp.2 ?_))
   rw[show hh.toNat-l.toNat=0 from by omega,show(0:Int).toNat-l.toNat=0 from by omega]
   exact⟨_,rfl⟩
  ·rw[hz]at h
   obtain⟨ad',dJ⟩:=RF e e' ad 0 0 hu hle hv hz
   exact a6 dJ (hn _ [] [] _ _ _ _ h (.refl hc.mem) (VR.emp.2 ⟨_,rfl⟩))
 ·rename_i e iI
  obtain⟨e',hu,hle⟩:=zW.slice
  cases hz:(lo.isNone&&mf hi&&mf mx)
  ·rw[hz]at h
   obtain⟨y,rd,ups,M',h,ix,hV,_⟩:=ov (.refl _) hc.mem hv h
   replace h:cond ((mx.map σ.ρ).isNone||(hi.map σ.ρ).isSome) (yF (lo.map σ.ρ) 0 λl=>yF (hi.map σ.ρ) (List.length y:Int) λh=>yF (mx.map σ.ρ) (List.length y:Int) λm=>
    cond (jt l h m (List.length y:Int)) (K (.val (.slice e) (List.drop l.toNat (List.take h.toNat y))) rd ups) none) none=some r:=h
   obtain⟨hm,h⟩:=cB h
   obtain⟨l,h,ye⟩:=q7 hc h
   obtain⟨hh,h,Lh⟩:=q7 hc h
   obtain⟨m,h,PA⟩:=q7 hc h
   obtain⟨hk,h⟩:=cB h
   rw[zL]at hk
   obtain⟨h0,h1,h2,h3⟩:=bF hk
   have hr:=V.slice.1 hV
   have eZ:=hr
   simp only[Rd,fv,ec]at eZ
   obtain⟨ad,cap,hx,alX,_⟩:=eZ
   rw[hx]at hr
   have jW:(mx.map a.eval).isNone=true∨(hi.map a.eval).isSome=true:=by
    simp only[nk,Option.isNone_map,Option.isSome_map]at hm ⊢;exact hm
   have ag6: ∃m',YI (mx.map a.eval) cap m'∧hh≤m'∧m'≤cap:=by
    rcases PA with⟨h9,_⟩|⟨k,h9⟩
    ·exact⟨cap,.inl ⟨h9,rfl⟩,ω,fx _⟩
    ·exact⟨m,.inr ⟨k,h9⟩,h2,ω⟩
   obtain⟨m',ag6,h4,h5⟩:=ag6
   have dJ:=uV (P:=P) (w:=w) ho hu hle hx ye Lh ag6 jW h0 h1 h4 h5
   refine a6 dJ (hn _ _ _ _ _ M' _ h ix ?_)
   simp only[VR]
   exact V.slice.2 (hr.cut h0 h1 h4 ω)
  ·rw[hz]at h
   obtain⟨y,rd,h,hS⟩:=Cp hc.mem hv h
   obtain⟨ad,cap,hx,_⟩:=hS
   obtain⟨ad',dJ⟩:=RF e e' ad _ cap hu hle hx hz
   exact a6 dJ (hn _ _ [] _ _ _ _ h (.refl hc.mem) (VR.emp.2 ⟨_,rfl⟩))
 ·cases h
end VM
end
section
namespace VM
open Go
variable{P:Program}{E:Env}{o:Oper}{a:Act}{w:World}{M:Nat→Prop}{ν:Nat→Value}{σ:St}{c:Ctx}{α:Type}{r:α}{next:Act→World→Prop}{Q:Exit→Act→World→Prop}
theorem sK{t ty e:TypeId}{i:TypeInfo}(ht:P.underlying t=some (.slice e))(hi:P.info? e=some i)(base:Option Addr)(n cap:Nat)(h:n≤cap)(a':Option Addr)(cp:Nat):
  (Builtin.append_ #[t,t] ty #[.slice base n cap,.slice a' 0 cp]).run P w= .ok (.slice base n cap) w:=by
 cases a'<;>cases base<;>simp[Builtin.append_,run_underlying ht,Go.sizeOf,typeInfo,hi,Builtin.lenOf,h,Builtin.firstCells,loadCells,loadCellsFrom,storeCells]
theorem Mi{t ty e te:TypeId}{i:TypeInfo}(ht:P.underlying t=some (.slice e))(hi:P.info? e=some i){b n cap m cp:Nat}{a':Addr}{news:List Value}{cs:Array Value}
  (hg:w.heap[b]? =some (.cells cs te (0,0))) (hs:cs.size=cap*i.size) (hl:news.length=m*i.size) (hn: ∀j u,news[j]? =some u→w.cell? (a'.add j)=some u) (h1: ∀u∈news,u.oneCell'=true) (hr:n+m≤cap):
  (Builtin.append_ #[t,t] ty #[.slice (some ⟨b,0,none⟩) n cap,.slice (some a') m cp]).run P w= .ok (.slice (some ⟨b,0,none⟩) (n+m) cap) (w.setRow b (fj cs.toList (n*i.size) news).toArray):=by
 have hf:=run_firstCells_some (P:=P) w i.size m a' m cp news hl hn
 have hm:(n+m)*i.size≤cap*i.size:=kK _ hr
 rw[eG]at hm
 have EV:=run_storeCells_at (P:=P) b (n*i.size) te news 0 cs w hg ω h1
 simp only[nr]at EV
 simp[Builtin.append_,run_underlying ht,Go.sizeOf,typeInfo,hi,Builtin.lenOf,hr,hf,Addr.add_lit,EV,fj]
theorem ik{args:Array Operand}{t:TypeId}{x y:Operand}{v:Value}{w':World}(ho:o.op= .call {callee:= .builtin .append,args,argTypes:= #[t,t]})(ha:args.toList=[x,y])
  (h:(Builtin.append_ #[t,t] o.type #[a.eval x,a.eval y]).run P w= .ok v w'):(execOp a.eval o).run P w= .ok (.value v) w':=by
 obtain⟨cs,hr⟩:=q4 (P:=P) (ρ:=a.eval) ho (w:=w)
 rw[hr]
 have:args.map a.eval= #[a.eval x,a.eval y]:=by apply js;simp[ha]
 rw[this]
 simp[builtin,h]
theorem E5{H:Nat→Option bh}(hm:Mem c H w M ν){id:Nat}(bm:H id=none){t ty:TypeId}{e':TypeId}{e:Ty}(hu:P.underlying t=some (.slice e'))(hle:kO P e e')
  {xs ys:List e.den} {olds news:List Value} {base:Option Addr} {cap cp:Nat} {a':Addr} (Vu:base=none→xs=[]∧cap=0)
  (ye:olds.length=xs.length*e.size) (hro:q5 w M e olds xs) (ho: ∀b,base=some b→ ∀j u,olds[j]? =some u→w.cell? (b.add j)=some u)
  (YJ:news.length=ys.length*e.size) (hrn:q5 w M e news ys) (hn: ∀j u,news[j]? =some u→w.cell? (a'.add j)=some u)
  (hg:cap<xs.length+ys.length) (hs:xs.length+ys.length<yE):
  ∃v w' M' ν',(Builtin.append_ #[t,t] ty #[.slice base xs.length cap,.slice (some a') ys.length cp]).run P w= .ok v w'∧Tr c H w M ν (bT H id (some (.own e (xs++ys)))) w' M' ν'∧ν' id=v:=by
 obtain⟨i,hi,sh,hz,hby⟩:=hle.base
 have hzs:(cI e e.dr).cells.size=e.size:=by rw[←bJ,g5,oU]
 have h63:xs.length+ys.length≤maxLen:=by simp only[yE,maxLen]at hs ⊢;omega
 have Mj:(xs.length+ys.length)*i.bytes≤140737488355328:=by
  have:(xs.length+ys.length)*i.bytes≤68719476736*2048:=wk (by simp only[yE]at hs;omega) hby
  omega
 have dJ: ∃nB rest,(Builtin.append_ #[t,t] ty #[.slice base xs.length cap,.slice (some a') ys.length cp]).run P w= .ok (.slice (some ⟨w.heap.size,0,none⟩) (xs.length+ys.length) nB) (w.drew.alloc (.cells (olds++news++rest).toArray e'))∧
   xs.length+ys.length≤nB∧nB≤maxLen∧rest.length=(nB-(xs.length+ys.length))*e.size:=by
  refine⟨grownCap w (xs.length+ys.length) cap e',(Builtin.zeroCells (cI e e.dr).cells (grownCap w (xs.length+ys.length) cap e'-(xs.length+ys.length))).toList,?_,grownCap_ge _ _ _ _,grownCap_le_maxLen _ _ _ _ h63,?_⟩
  ·cases base with
   |none=>
    obtain⟨rfl,rfl⟩:=Vu rfl
    have ho0:olds=[]:=uI (by rw[ye];simp)
    subst ho0
    have:=run_append_nil (P:=P) w t ty e' i _ hu hi hz a' ys.length cp news (by rw[YJ,sh]) hn (by simpa using hg) (by simp only[yE]at hs;omega) (by simp at Mj;omega)
    simp only[bZ,gq,cL]
    rw[this]
    congr 2
    apply eA (λz=>Obj.cells z e' (0,0))
    apply js;simp
   |some b=>
    have:=run_append_grow (P:=P) w t ty e' i _ hu hi hz b xs.length cap olds (by rw[ye,sh]) (ho b rfl) a' ys.length cp news (by rw[YJ,sh]) hn hg (by simp only[yE]at hs;omega) (growslice_fits hg Mj)
    rw[this]
    congr 2
    apply eA (λz=>Obj.cells z e' (0,0))
    apply js;simp
  ·rw[bJ,size_zeroCells,hzs]
 obtain⟨nB,rest,dJ,Ih,hc2,al2⟩:=dJ
 have hlen:(xs++ys).length=xs.length+ys.length:=aT
 have hd:=Tr.drew hm
 have hon:(olds++news).length=(xs++ys).length*e.size:=by rw[aT,ye,YJ,hlen,eG]
 have P1:=Tr.row hd.mem bm e' (e:=e) (cs:=(olds++news++rest).toArray) (l:=xs++ys) (cap:=nB) (by rw[hlen];exact Ih) hc2
  (by rw[je,aT,hon,al2,hlen,←eG];congr 1;omega)
  (q5.more ((hro.append ye hrn).cc hd.cc) (by rw[hon];exact aI _))
 refine⟨_,_,_,_,dJ,hd.trans P1,?_⟩
 rw[←hlen];simp[dp]
theorem S4(hE:EnvTy P E)(hc:Core c σ a.tmps w M ν){args:Array Operand}{ts:Array TypeId}{t t':TypeId}{x y:Operand}(ho:o.op= .call {callee:= .builtin .append,args,argTypes:=ts})(ha:args.toList=[x,y])(hts:ts.toList=[t,t']){K:jf α}{e:Ty}
  (ht:E.ty t=some (.slice e)) {id:Nat} (h:cond (Nat.beq t t') (qX σ.H id (.own e []) (LX id e (σ.ρ x) (σ.ρ y) σ.H K)) none=some r) (hn:gi c σ a o w M ν K r next):o.wp P a w next Q:=by
 obtain⟨htt,h1⟩:=cB h
 clear h
 have htt:=fV htt
 subst htt
 obtain⟨bm,h⟩:=lL h1
 clear h1
 have arK:ts= #[t,t]:=by apply js;simpa using hts
 subst arK
 obtain⟨e',hu,hle⟩:=(hE.ty t _ ht).slice
 obtain⟨i,hi,sh,hz,hby⟩:=hle.base
 have JP:=hc.ev x
 unfold LX at h
 obtain⟨ys,rd,h,hS⟩:=Cp hc.mem (hc.ev y) h
 have ag9:(ys=[]∧ ∃a' cp,a.eval y= .slice a' 0 cp)∨(ys≠[]∧ ∃a' cp news,a.eval y= .slice (some a') ys.length cp∧news.length=ys.length*e.size∧(∀j u,news[j]? =some u→w.cell? (a'.add j)=some u)∧q5 w M e news ys∧ ∀u∈news,u.oneCell'=true):=by
  by_cases hy:ys=[]
  ·left
   obtain⟨a',cp,hv,_⟩:=hS
   exact⟨hy,a',cp,by rw[hv,hy];rfl⟩
  ·right
   obtain⟨b,off,cp,news,hv,hl,p6,lh,h1⟩:=hS.cells hy
   exact⟨hy,⟨b,off,none⟩,cp,news,hv,hl,λj u hj=>by rw[Addr.add_lit];exact p6 j u hj,lh,h1⟩
 split at h
 ·
  rename_i hx
  rw[hx]at JP
  obtain⟨ad,JP⟩:=VR.emp.1 JP
  obtain⟨RG,h⟩:=cB h
  rw[EN]at RG
  have RG:=bF RG
  rcases ag9 with⟨rfl,a',cp,Dn⟩|⟨hy,a',cp,news,Dn,hl,p6,lh,h1⟩
  ·refine a6 (ik ho ha (by rw[JP,Dn];exact sK hu hi ad 0 0 (aI _) a' cp)) (hn _ _ _ _ _ _ _ h (Tr.nothing hc.mem bm e ad) ?_)
   simp only[VR]
   exact⟨by show bT _ id _ id≠none;rw[ay];simp,by simp[dp]⟩
  ·have Mk:0<ys.length:=o0.2 hy
   obtain⟨v,w',M',ν',dJ,ix,hv⟩:=E5 (P:=P) (ty:=o.type) hc.mem bm hu hle (xs:=[]) (ys:=ys) (olds:=[]) (news:=news) (base:=ad) (cap:=0) (cp:=cp) (a':=a') (λ_=>⟨rfl,rfl⟩) (by simp) (λi hi=>absurd hi (by simp)) (λ_ _ j u hj=>by simp at hj)
    hl lh p6 (by simpa using Mk) (by simpa using RG)
   refine a6 (ik ho ha (by rw[JP,Dn];exact dJ)) (hn _ _ _ _ _ _ _ h ix ?_)
   simp only[VR]
   exact⟨by show bT _ id _ id≠none;rw[ay];simp,hv.symm⟩
 ·
  rename_i j hx
  rw[hx]at JP
  simp only[VR]at JP
  obtain⟨_,JP⟩:=JP
  split at h
  ·rename_i e1 l hj
   obtain⟨e2,h⟩:=bC h
   cases e2
   obtain⟨RG,h⟩:=cB h
   rw[EN]at RG
   have RG:l.length+ys.length<yE:=bF RG
   have iI:id≠j:=λe=>by rw[e,hj]at bm;cases bm
   have pI:bT σ.H j (some .gone) id=none:=by rw[az _ _ iI];exact bm
   have PC:=Tr.gone hc.mem j
   have mS:=hc.mem.ln j _ hj
   simp only[ER]at mS
   rcases mS with⟨rfl,ad,hjv⟩|⟨b,cs,te,cap,hjv,hg,hM,UU,hl,Hc,hs,hr⟩
   ·rw[hjv]at JP
    rcases ag9 with⟨rfl,a',cp,Dn⟩|⟨hy,a',cp,news,Dn,hl,p6,lh,h1⟩
    ·refine a6 (ik ho ha (by rw[JP,Dn];exact sK hu hi ad 0 0 (aI _) a' cp)) (hn _ _ _ _ _ _ _ h (PC.trans (Tr.nothing PC.mem pI e ad)) ?_)
     simp only[VR]
     exact⟨by show bT _ id _ id≠none;rw[ay];simp,by simp[dp]⟩
    ·have Mk:0<ys.length:=o0.2 hy
     obtain⟨v,w',M',ν',dJ,ix,hv⟩:=E5 (P:=P) (ty:=o.type) PC.mem pI hu hle (xs:=[]) (ys:=ys) (olds:=[]) (news:=news) (base:=ad) (cap:=0) (cp:=cp) (a':=a') (λ_=>⟨rfl,rfl⟩) (by simp) (λi hi=>absurd hi (by simp)) (λ_ _ j u hj=>by simp at hj)
      hl lh p6 (by simpa using Mk) (by simpa using RG)
     refine a6 (ik ho ha (by rw[JP,Dn];exact dJ)) (hn _ _ _ _ _ _ _ h (PC.trans ix) ?_)
     simp only[VR]
     exact⟨by show bT _ id _ id≠none;rw[ay];simp,hv.symm⟩
   ·rw[hjv]at JP
    have Ma:cs.toList.length=cap*e.size:=by rw[bJ,hs]
    have JT:l.length*e.size≤cap*e.size:=kK _ hl
    rcases ag9 with⟨rfl,a',cp,Dn⟩|⟨hy,a',cp,news,Dn,YJ,p6,lh,h1⟩
    ·refine a6 (ik ho ha (by rw[JP,Dn];exact sK hu hi _ _ cap hl a' cp)) (hn _ _ _ _ _ M (dp ν id (ν j)) h ?_ ?_)
     ·refine Tr.rename hc.mem hj bm (.inr rfl) ?_
      rw[cK]
      exact hc.mem.ln j _ hj
     ·simp only[VR]
      exact⟨by show bT _ id _ id≠none;rw[ay];simp,by simp[dp,hjv]⟩
    ·by_cases z8:l.length+ys.length≤cap
     ·have hmul:(l.length+ys.length)*e.size≤cap*e.size:=kK _ z8
      rw[eG]at hmul
      have dJ:=Mi (P:=P) (ty:=o.type) hu hi (w:=w) (b:=b) (n:=l.length) (cap:=cap) (m:=ys.length) (cp:=cp) (a':=a') (news:=news) (cs:=cs) hg (by rw[hs,sh]) (by rw[YJ,sh]) p6 h1 z8
      rw[sh]at dJ
      have Zb:fj cs.toList (l.length*e.size) news=(cs.toList.take (l.length*e.size)++news)++cs.toList.drop (l.length*e.size+news.length):=rfl
      have hold:q5 w M e (cs.toList.take (l.length*e.size)) l:=q5.take hr (aI _)
      have htl:(cs.toList.take (l.length*e.size)).length=l.length*e.size:=by rw[bO];omega
      have afG:q5 w M e (fj cs.toList (l.length*e.size) news) (l++ys):=by
       rw[Zb]
       refine q5.more (hold.append htl lh) ?_
       rw[aT,aT,htl,YJ,eG];exact aI _
      have Li:(fj cs.toList (l.length*e.size) news).length=cap*e.size:=by rw[gK ω];exact Ma
      have Zk:Tr c σ.H w M ν (bT σ.H j (some (.own e l))) (w.setRow b (fj cs.toList (l.length*e.size) news).toArray) M ν:=by
       refine Tr.write (e':= .own e l) hc.mem hj trivial trivial (.refl _) (by rw[hjv];simp[fL];omega) hg λPx hk Bo=> ?_
       simp only[ER]
       refine .inr ⟨b,_,te,cap,hjv,setRow_heap w b cs _ te _ hg,Bo,UU,hl,Hc,by rw[je];exact Li,λk Hv=> ?_⟩
       have:=(afG k (by rw[aT];omega)).cc hk
       rw[Et Hv]at this
       exact this
      rw[Bm hj]at Zk
      have wI:Tr c σ.H (w.setRow b (fj cs.toList (l.length*e.size) news).toArray) M ν (bT (bT σ.H j (some .gone)) id (some (.own e (l++ys)))) (w.setRow b (fj cs.toList (l.length*e.size) news).toArray) M (dp ν id (.slice (some ⟨b,0,none⟩) (l++ys).length cap)):=by
       refine Tr.rename Zk.mem hj bm (.inr (by rw[hjv];simp[fL])) ?_
       simp only[ER]
       refine .inr ⟨b,_,te,cap,rfl,setRow_heap w b cs _ te _ hg,hM,UU,by rw[aT];exact z8,Hc,by rw[je];exact Li,(afG.cc Zk.cc)⟩
      refine a6 (ik ho ha (by rw[JP,Dn];exact dJ)) (hn _ _ _ _ _ _ _ h (Zk.trans wI) ?_)
      simp only[VR]
      exact⟨by show bT _ id _ id≠none;rw[ay];simp,by simp[dp]⟩
     ·obtain⟨v,w',M',ν',dJ,ix,hv⟩:=E5 (P:=P) (ty:=o.type) PC.mem pI hu hle (xs:=l) (ys:=ys) (olds:=cs.toList.take (l.length*e.size)) (news:=news) (base:=some ⟨b,0,none⟩) (cap:=cap) (cp:=cp) (a':=a') (λh=>by cases h)
       (by rw[bO];omega) (q5.take hr (aI _)) (λb' ff k u hk=>by
        cases ff
        rw[Addr.add_lit,cell_of hg]
        rw[lZ]at hk
        split at hk
        ·rw[←gY];simpa using hk
        ·cases hk)
       YJ lh p6 ω RG
      refine a6 (ik ho ha (by rw[JP,Dn];exact dJ)) (hn _ _ _ _ _ _ _ h (PC.trans ix) ?_)
      simp only[VR]
      exact⟨by show bT _ id _ id≠none;rw[ay];simp,hv.symm⟩
  ·cases h
 ·cases h
end VM
end
section
namespace VM
open Go
variable{P:Program}{E:Env}{o:Oper}{a:Act}{w:World}{M:Nat→Prop}{ν:Nat→Value}{σ:St}{c:Ctx}{α:Type}{r:α}{next:Act→World→Prop}{Q:Exit→Act→World→Prop}
def tz:{m:AM}→{ms:List AM}→HP (m::ms)→m.den
 |_,[],x=>x
 |_,_::_,x=>x.1
def yf:{m:AM}→{ms:List AM}→HP (m::ms)→HP ms
 |_,[],_=>()
 |_,_::_,x=>x.2
def AM.iJ:AM→Bool
 | .io _| .lo _=>true
 |_=>false
def AM.Zl:AM→Bool
 | .fn _ _| .jr _=>true
 |_=>false
def A1(w:World)(M:Nat→Prop):(m:AM)→m.den→Value→Prop
 | .v τ,x,v=>V w M τ v x
 | .own e,x,v=>ER w M v (.own e x)
 | .io τ,x,v=>ER w M v (.obj τ x)
 | .fn f τ,x,v=>VR w M (λ_=>none) (λ_=>undef) (.LR f (pW τ x)) v
 | .ptr τ,x,v=>ER w M v (.obj τ x)
 | .jr τ,x,v=>VR w M (λ_=>none) (λ_=>undef) (.qW τ x) v
 | .lo e,x,v=>ER w M v (.own e x)
def jL(w:World)(M:Nat→Prop):(ms:List AM)→HP ms→List Value→Prop
 |[],_,vs=>vs=[]
 |_::ms,x,vs=> ∃v Lj,vs=v::Lj∧A1 w M _ (tz x) v∧jL w M ms (yf x) Lj
def db:AM→Value→List Nat
 | .own _,v| .io _,v| .ptr _,v| .lo _,v=>(fL v).toList
 |_,_=>[]
def dX:List AM→List Value→List Nat
 |m::ms,v::vs=>db m v++dX ms vs
 |_,_=>[]
def fC:List AM→List Value→List Value
 |m::ms,v::vs=>if m.iJ then v::fC ms vs else fC ms vs
 |_,_=>[]
def nC:List AM→List AM
 | .io τ::ms=> .io τ::nC ms
 | .lo e::ms=> .lo e::nC ms
 |_::ms=>nC ms
 |[]=>[]
def RR(w:World)(M:Nat→Prop):(ms:List AM)→HP ms→List Value→List Value→Prop
 |[],_,vs,ps=>vs=[]∧ps=[]
 |m::ms,x,vs,ps=>(∃p Hh,m.iJ=true∧ps=p::Hh∧A1 w M m (tz x) p∧RR w M ms (yf x) vs Hh)∨
  (∃v Lj,m.iJ=false∧m.Zl=false∧vs=v::Lj∧A1 w M m (tz x) v∧RR w M ms (yf x) Lj ps)
def bH:List AM→List Value→List Value→List Nat
 |[],_,_=>[]
 |m::ms,vs,ps=>if m.iJ then db m (ps.headD undef)++bH ms vs ps.tail else db m (vs.headD undef)++bH ms vs.tail ps
def Ty.flat:Ty→Bool
 | .slice _=>false
 | .pair a b=>a.flat&&b.flat
 | .arr _ e=>e.flat
 |_=>true
def AM.flat:AM→Bool
 | .v τ| .io τ| .own τ| .ptr τ| .lo τ=>τ.flat
 | .fn _ _| .jr _=>false
def wM(vs:List Value):Value:=if h:vs.length=1 then vs[0]else .tuple vs.toArray
structure Left(w:World)(M0:Nat→Prop)(hs:List Nat)(w':World)(M':Nat→Prop):Prop where
 sub: ∀b,M0 b→M' b
 ES: ∀b,M' b→b<w'.heap.size
 less: ∀b,b<w.heap.size→M' b→M0 b∨b∈hs
 frame: ∀b,b<w.heap.size→b∉hs→w'.heap[b]? =w.heap[b]?
 size:w.heap.size≤w'.heap.size
 os:w'.os=w.os
 tape:w'.tape=w.tape
 output:w'.output=w.output
def Ml(P:Program)(f:FuncId)(args:Array Value)(w:World)(R:Value→World→Prop):Prop:=
 ∀(o:Oper) (a:Act) (next:Act→World→Prop) (Q:Exit→Act→World→Prop),(∀v w',R v w'→next (a.put o.dst v) w')→o.upon P a next Q ((callFunc f args).run P w)
theorem Ml.mono{f:FuncId}{args:Array Value}{R R':Value→World→Prop}(h:Ml P f args w R)(hr: ∀v w',R v w'→R' v w'):Ml P f args w R':=
 λo a next Q hn=>h o a next Q λv w' hv=>hn v w' (hr v w' hv)
theorem ta{f:FuncId}{fn:Func}{args:Array Value}{R:Value→World→Prop}(hf:P.funcs[f]? =some fn)(hn:(fn.name== "runtime.NumGoroutine")=false)(hb:fn.body.isNone=false)
  (h:Calls P f args w λe w'=> ∃v,e= .returned v∧R v w'):Ml P f args w R:=by
 intro o a next Q wN
 have hn': ¬fn.name= "runtime.NumGoroutine" :=by simpa using hn
 have ff: ¬fn.body=none:=λe=>by rw[e]at hb;cases hb
 have:(callFunc f args).run P w= .ok (.enter f args) w:=by simp[callFunc,hf,hn',ff]
 rw[this,Oper.upon_enter]
 refine Calls.mono h ?_
 rintro e w' ⟨v,rfl,hR⟩
 exact wN v w' hR
theorem HA{f:FuncId}{args:Array Value}{R:Value→World→Prop}{v:Value}{w':World}(h:(callFunc f args).run P w= .ok (.value v) w')(hR:R v w'):Ml P f args w R:=by
 intro o a next Q wN
 rw[h,Oper.upon_value]
 exact wN v w' hR
structure iy(P:Program)(f:FuncId)(S:lJ):Prop where
 quiet:S.quiet=true→S.res.all AM.flat=true
 ios:nC S.args=nC S.res
 call: ∀(M0:Nat→Prop) (w:World) (vs:List Value) (x:HP S.args) (y:HP S.res),(∀b,M0 b→b<w.heap.size)→
  jL w (λb=>M0 b∨b∈dX S.args vs) S.args x vs→(dX S.args vs).Nodup→(∀b∈dX S.args vs,¬M0 b)→S.run x=some y→
  Ml P f vs.toArray w λv w'=> ∃us M',v=wM us∧RR w' M' S.res y us (fC S.args vs)∧Left w M0 (dX S.args vs) w' M'∧
   (bH S.res us (fC S.args vs)).Nodup∧ ∀b∈bH S.res us (fC S.args vs),¬M0 b
theorem Rd.flat{w:World}{M M':Nat→Prop}: ∀{τ:Ty} {cs:List Value} {x:τ.den},τ.flat=true→Rd w M τ cs x→Rd w M' τ cs x
 | .int _,_,_,_,h| .bool,_,_,_,h| .str,_,_,_,h| .unit,_,_,_,h=>h
 | .slice _,_,_,hf,_=>by simp[Ty.flat]at hf
 | .pair a b,_,_,hf,h=>by
  simp only[Ty.flat,bP]at hf
  simp only[Rd]at h ⊢
  obtain⟨c1,c2,rfl,h1,h2⟩:=h
  exact⟨c1,c2,rfl,h1.flat hf.1,h2.flat hf.2⟩
 | .arr n e,_,x,hf,h=>by
  simp only[Ty.flat]at hf
  simp only[Rd]at h ⊢
  obtain⟨hn,SQ,hc,rfl,hr⟩:=h
  exact⟨hn,SQ,hc,rfl,λi hi lA=>(hr i hi lA).flat hf⟩
theorem A1.flat{w:World}{M M':Nat→Prop}(hM: ∀b,M b→M' b){m:AM}{x:m.den}{v:Value}(hf:m.flat=true)(h:A1 w M m x v):A1 w M' m x v:=by
 cases m with
 |v τ=>
  simp only[A1,V,AM.flat]at h hf ⊢
  split
  ·rename_i ha;rw[aj ha]at h;obtain⟨cs,h1,h⟩:=h;exact⟨cs,h1,h.flat hf⟩
  ·rename_i ha;rw[ah ha]at h;exact h.flat hf
 |own e=>
  simp only[A1,ER,AM.flat]at h hf ⊢
  rcases h with h|⟨b,cs,t,cap,h1,h2,h3,h4,h5,h6,h7,h8⟩
  ·exact .inl h
  ·exact .inr ⟨b,cs,t,cap,h1,h2,hM b h3,h4,h5,h6,h7,λi hi=>(h8 i hi).flat hf⟩
 |io τ=>
  simp only[A1,ER,AM.flat]at h hf ⊢
  obtain⟨b,cs,t,h1,h2,h3,h4⟩:=h
  exact⟨b,cs,t,h1,h2,hM b h3,h4.flat hf⟩
 |fn f τ=>simp[AM.flat]at hf
 |jr τ=>simp[AM.flat]at hf
 |lo e=>
  simp only[A1,ER,AM.flat]at h hf ⊢
  rcases h with h|⟨b,cs,t,cap,h1,h2,h3,h4,h5,h6,h7,h8⟩
  ·exact .inl h
  ·exact .inr ⟨b,cs,t,cap,h1,h2,hM b h3,h4,h5,h6,h7,λi hi=>(h8 i hi).flat hf⟩
 |ptr τ=>
  simp only[A1,ER,AM.flat]at h hf ⊢
  obtain⟨b,cs,t,h1,h2,h3,h4⟩:=h
  exact⟨b,cs,t,h1,h2,hM b h3,h4.flat hf⟩
theorem RR.flat{w:World}{M M':Nat→Prop}(hM: ∀b,M b→M' b): ∀{ms:List AM} {x:HP ms} {vs ps:List Value},ms.all AM.flat=true→RR w M ms x vs ps→RR w M' ms x vs ps
 |[],_,_,_,_,h=>h
 |m::ms,x,vs,ps,hf,h=>by
  simp only[EK,bP]at hf
  simp only[RR]at h ⊢
  rcases h with⟨p,Hh,h1,h2,h3,h4⟩|⟨v,Lj,h1,h2,h3,h4,h5⟩
  ·exact .inl ⟨p,Hh,h1,h2,h3.flat hM hf.1,RR.flat hM hf.2 h4⟩
  ·exact .inr ⟨v,Lj,h1,h2,h3,h4.flat hM hf.1,RR.flat hM hf.2 h5⟩
theorem A1.wO{w w':World}{M M':Nat→Prop}(k:fh w M w' M'){m:AM}{x:m.den}{v:Value}(hm: ∀b∈db m v,w'.heap[b]? =w.heap[b]? ∧M' b)(h:A1 w M m x v):A1 w' M' m x v:=by
 cases m with
 |v τ=>exact V.cc k h
 |own e=>
  simp only[A1]at h ⊢
  exact ER.cc k (λ_ b hb=>hm b (by simp[db,hb])) h
 |io τ=>
  simp only[A1]at h ⊢
  exact ER.cc k (λ_ b hb=>hm b (by simp[db,hb])) h
 |fn f τ=>exact VR.cc k (.refl _ _) h
 |jr τ=>exact VR.cc k (.refl _ _) h
 |lo e=>
  simp only[A1]at h ⊢
  exact ER.cc k (λ_ b hb=>hm b (by simp[db,hb])) h
 |ptr τ=>
  simp only[A1]at h ⊢
  exact ER.cc k (λ_ b hb=>hm b (by simp[db,hb])) h
theorem jL.wO{w w':World}{M M':Nat→Prop}(k:fh w M w' M'): ∀{ms:List AM} {x:HP ms} {vs:List Value},(∀b∈dX ms vs,w'.heap[b]? =w.heap[b]? ∧M' b)→jL w M ms x vs→jL w' M' ms x vs
 |[],_,_,_,h=>h
 |m::ms,x,vs,hm,h=>by
  simp only[jL]at h ⊢
  obtain⟨v,Lj,rfl,h1,h2⟩:=h
  exact⟨v,Lj,rfl,h1.wO k (λb hb=>hm b (by simp[dX,hb])),jL.wO k (λb hb=>hm b (by simp[dX,hb])) h2⟩
theorem RR.wO{w w':World}{M M':Nat→Prop}(k:fh w M w' M'): ∀{ms:List AM} {x:HP ms} {us ps:List Value},(∀b∈bH ms us ps,w'.heap[b]? =w.heap[b]? ∧M' b)→RR w M ms x us ps→RR w' M' ms x us ps
 |[],_,_,_,_,h=>h
 |m::ms,x,us,ps,hm,h=>by
  simp only[RR]at h ⊢
  rcases h with⟨p,Hh,h1,rfl,h2,h3⟩|⟨v,JU,h1,h2,rfl,h3,h4⟩
  ·simp only[bH,h1,gH,tG,tH,bo]at hm
   exact .inl ⟨p,Hh,h1,rfl,h2.wO k (λb hb=>hm b (.inl hb)),RR.wO k (λb hb=>hm b (.inr hb)) h3⟩
  ·simp only[bH,h1,jd,fa,tG,tH,bo]at hm
   exact .inr ⟨v,JU,h1,h2,rfl,h3.wO k (λb hb=>hm b (.inl hb)),RR.wO k (λb hb=>hm b (.inr hb)) h4⟩
theorem D2{H:Nat→Option bh}(hm:Mem c H w M ν){a:bD}{v:Value}(hv:VR w M H ν a v){τ:Ty}{k:τ.den→List Nat→ja→Option α}{r:α}(h:mu true a H τ k=some r):
  ∃y rd ups,k y rd ups=some r∧((ups=[]∧V w M τ v y)∨ ∃id e l,ups=[(id,some (.oS e l))]∧H id=some (.own e l)∧
   ∀M',(∀b,M' b↔(M b∧fL (ν id)≠some b))→V w M' τ v y):=by
 unfold mu at h
 split at h
 ·obtain⟨e,h⟩:=bC h
  subst e
  simp only[VR]at hv
  exact⟨_,[],[],h,.inl ⟨rfl,hv⟩⟩
 ·obtain⟨e,h⟩:=bC h
  subst e
  simp only[VR]at hv
  exact⟨_,[],[],h,.inl ⟨rfl,hv.1⟩⟩
 ·split at h
  ·rename_i e k' _
   simp only[VR]at hv
   obtain⟨a,rfl⟩:=hv
   refine⟨[],[],[],h,.inl ⟨rfl,V.slice.2 ?_⟩⟩
   simp only[Rd]
   exact⟨a,0,rfl,aI _,λi hi=>absurd hi (by simp)⟩
  ·cases h
 ·rename_i id
  simp only[VR]at hv
  obtain⟨_,rfl⟩:=hv
  split at h
  ·rename_i e l bm
   obtain⟨e',h⟩:=bC h
   subst e'
   refine⟨_,_,_,h,.inr ⟨id,e,l,rfl,bm,λM' hM'=> ?_⟩⟩
   obtain⟨M2,_,hV,JL⟩:=Tr.freeze hm bm
   have:M'=M2:=by funext b;exact propext ((hM' b).trans (JL b).symm)
   rw[this];exact hV
  ·rename_i e l bm
   obtain⟨e',h⟩:=bC h
   subst e'
   have:=hm.ln id _ bm
   simp only[ER]at this
   exact⟨_,_,_,h,.inl ⟨rfl,V.slice.2 this.1⟩⟩
  ·cases h
 ·cases h
theorem Vv{H:Nat→Option bh}(hm:Mem c H w M ν): ∀{a:Ty} {x:bD} {v:Value} {k:a.den→List Nat→ja→Option α} {r:α},VR w M H ν x v→Cj x H a k=some r→
  ∃y rd ups,k y rd ups=some r∧(ups=[]→VR w M (λ_=>none) (λ_=>undef) (Ck a y) v):=by
 intro a x v k r hv h
 unfold Cj at h
 split at h
 ·rename_i a k
  split at h
  ·rename_i υ z
   obtain⟨e1,h⟩:=bC h
   subst e1
   refine⟨_,_,_,h,λ_=> ?_⟩
   simp only[Ck,VR]at hv ⊢
   exact hv
  ·cases h
 ·rename_i k0 vE
  obtain⟨y,rd,ups,h,hy⟩:=D2 hm hv h
  refine⟨y,rd,ups,h,λhu=> ?_⟩
  rcases hy with⟨_,hy⟩|⟨_,_,_,h3,_⟩
  ·have:Ck _ y= .val _ y:=by
    unfold Ck
    split
    ·exact(vE _ _ rfl HEq.rfl).elim
    ·rfl
   rw[this]
   simp only[VR];exact hy
  ·rw[hu]at h3;cases h3
theorem E6{H:Nat→Option bh}(hm:Mem c H w M ν): ∀{τ:Ty} {p5:List bD} {vs:List Value} {k:τ.den→List Nat→ja→Option α} {r:α},ju w M H ν p5 vs→qY H τ p5 k=some r→
  ∃x rd ups,k x rd ups=some r∧(ups=[]→ju w M (λ_=>none) (λ_=>undef) (pW τ x) vs)
 | .unit,[],[],k,r,_,h=>⟨(),[],[],h,λ_=>by simp[pW,ju]⟩
 | .pair a b,x::xs,v::vs,k,r,hv,h=>by
  simp only[ju]at hv
  unfold qY at h
  obtain⟨y,rd,ups,h,hy⟩:=Vv hm hv.1 h
  obtain⟨ys,Bj,ot,h,hys⟩:=E6 hm hv.2 h
  refine⟨(y,ys),_,_,h,λhu=> ?_⟩
  have h1:ups=[]:=(LJ.1 hu).1
  have h2:ot=[]:=(LJ.1 hu).2
  simp only[pW,ju]
  exact⟨hy h1,hys h2⟩
 | .unit,[],_::_,_,_,hv,_=>by simp[ju]at hv
 |_,_::_,[],_,_,hv,_=>by simp[ju]at hv
 | .unit,_::_,_,_,_,_,h=>by simp[qY]at h
 | .pair _ _,[],_,_,_,_,h=>by simp[qY]at h
 | .int _,_,_,_,_,_,h| .bool,_,_,_,_,_,h| .str,_,_,_,_,_,h| .slice _,_,_,_,_,_,h| .arr _ _,_,_,_,_,_,h=>by simp[qY]at h
end VM
end
section
namespace VM
open Go
variable{P:Program}{E:Env}{o:Oper}{a:Act}{w:World}{M:Nat→Prop}{ν:Nat→Value}{σ:St}{c:Ctx}{α:Type}{r:α}{next:Act→World→Prop}{Q:Exit→Act→World→Prop}
def keys{β:Type}(l:List (Nat×β)):List Nat:=l.map (·.1)
theorem lN{i:Nat}: ∀{ups:ja} {H:Nat→Option bh},i∉keys ups→cY H ups i=H i
 |[],_,_=>rfl
 |u::r,H,h=>by
  simp only[keys,bR,aX,not_or]at h
  show cY (bT H u.1 u.2) r i=_
  rw[lN h.2,az _ _ h.1]
theorem Aa(u:Nat×Option bh)(b:ja)(hb:u.1∉keys b): ∀(a:ja) (H:Nat→Option bh),cY H (a++u::b)=bT (cY H (a++b)) u.1 u.2
 |[],H=>by
  show cY (bT H u.1 u.2) b=bT (cY H b) u.1 u.2
  induction b generalizing H with
  |nil=>rfl
  |cons v b ih=>
   simp only[keys,bR,aX,not_or]at hb
   show cY (bT (bT H u.1 u.2) v.1 v.2) b=bT (cY (bT H v.1 v.2) b) u.1 u.2
   rw[←ih hb.2]
   congr 1
   funext i
   by_cases h1:i=v.1
   ·subst h1;rw[ay,az _ _ (eU hb.1),ay]
   ·by_cases h2:i=u.1
    ·subst h2;rw[az _ _ h1,ay,ay]
    ·rw[az _ _ h1,az _ _ h2,az _ _ h2,az _ _ h1]
 |v::a,H=>Aa u b hb a (bT H v.1 v.2)
def IoE(H:Nat→Option bh)(q:Nat×AM):Prop:=(∃(τ:Ty) (x:τ.den),q.2= .io τ∧H q.1=some (.obj τ x))∨ ∃(e:Ty) (l:List e.den),q.2= .lo e∧H q.1=some (.own e l)
theorem IoE.some{H:Nat→Option bh}{q:Nat×AM}(h:IoE H q):H q.1≠none:=by
 rcases h with⟨_,x,_,h⟩|⟨e,l,_,h⟩<;>rw[h]<;>simp
structure jM(c:Ctx)(w:World)(M:Nat→Prop)(ν:Nat→Value)(H0 H1 Hq:Nat→Option bh)(M1:Nat→Prop)(uo uf:ja)(io:List (Nat×AM))(hs:List Nat):Prop where
 mem:Mem c H1 w M1 ν
 Mm:Mem c Hq w M ν
 cc:fh w M w M1
 ext: ∀i,i∉keys io→cY H0 (uo++uf) i=H1 i
 Vw: ∀i,i∉keys io→cY H0 uo i=Hq i
 S5: ∀q∈io,H1 q.1=some .gone∧Hq q.1=some .gone∧IoE H0 q
 ion:(keys io).Nodup
 ks: ∀i∈keys (uo++uf),∀e l,H1 i≠some (.own e l)
 ksn: ∀i∈keys (uo++uf),i∉keys io∧ ∃e l,H0 i=some (.own e l)
 fz:Fz Hq H1
 uov: ∀u∈uo,u.2=some .gone
 ufv: ∀u∈uf,∃e l,u.2=some (.oS e l)∧H0 u.1=some (.own e l)
 nd:hs.Nodup
 hM: ∀b∈hs,M1 b
 Mn: ∀b∈hs,c.B≤b∨c.may b
 none: ∀b∈hs,∀i e,Hq i=some e→e.mut→fL (ν i)≠some b
 iob: ∀b∈hs,c.M0 b→ ∃q∈io,fL (ν q.1)=some b
 same: ∀i,i∉keys (uo++uf)→i∉keys io→H1 i=H0 i
theorem jM.start{H:Nat→Option bh}(hm:Mem c H w M ν):jM c w M ν H H H M [] [] [] []:=
 ⟨hm,hm,.refl w M,λ_ _=>rfl,λ_ _=>rfl,λq hq=>by simp at hq,by simp[keys],λi hi=>by simp[keys]at hi,λi hi=>by simp[keys]at hi,.refl H,λu hu=>by simp at hu,λu hu=>by simp at hu,by simp,λb hb=>by simp at hb,λb hb=>by simp at hb,λb hb=>by simp at hb,λb hb=>by simp at hb,λ_ _ _=>rfl⟩
theorem Fz.Zm{H H1:Nat→Option bh}(h:Fz H H1){i:Nat}{e:Ty}{l:List e.den}(hi:H1 i=some (.own e l)):H i=some (.own e l):=by
 rcases h i with h'|⟨e',l',_,h'⟩
 ·rw[←h',hi]
 ·rw[hi]at h';cases h'
theorem Fz.al6{H H1:Nat→Option bh}(h:Fz H H1){i:Nat}{e:Ty}{l:e.den}(hi:H1 i=some (.obj e l)):H i=some (.obj e l):=by
 rcases h i with h'|⟨e',l',_,h'⟩
 ·rw[←h',hi]
 ·rw[hi]at h';cases h'
theorem Fz.mut{H H1:Nat→Option bh}(h:Fz H H1){i:Nat}{e:bh}(hi:H1 i=some e)(hm:e.mut):H i=some e:=by
 cases e with
 |obj=>exact h.al6 hi
 |gk=>
  rcases h i with h'|⟨e',l',_,h'⟩
  ·rw[←h',hi]
  ·rw[hi]at h';cases h'
 |own=>exact h.Zm hi
 |oS=>simp[bh.mut]at hm
 |gone=>simp[bh.mut]at hm
theorem jM.freeze{H0 H1 Hq:Nat→Option bh}{M1:Nat→Prop}{uo uf:ja}{io:List (Nat×AM)}{hs:List Nat}(h:jM c w M ν H0 H1 Hq M1 uo uf io hs){id:Nat}{e:Ty}{l:List e.den}(bm:H1 id=some (.own e l)):
  ∃M2,jM c w M ν H0 (bT H1 id (some (.oS e l))) Hq M2 uo ((id,some (.oS e l))::uf) io hs∧fh w M1 w M2∧(∀b,M2 b↔(M1 b∧fL (ν id)≠some b)):=by
 obtain⟨M2,ix,_,JL⟩:=Tr.freeze h.mem bm
 have vH:id∉keys io:=λhk=>by
  obtain⟨q,hq,rfl⟩:=cD.1 hk
  have:=(h.S5 q hq).1
  rw[bm]at this;cases this
 have UW:id∉keys (uo++uf):=λhk=>h.ks id hk e l bm
 have ahc:id∉keys uf:=λhk=>UW (by simp only[keys,dn,bo];exact .inr hk)
 have h0:H0 id=some (.own e l):=by rw[←h.same id UW vH];exact bm
 have hq:Hq id=some (.own e l):=h.fz.Zm bm
 have jX: ∀i,i∈keys (uo++(id,some (bh.oS e l))::uf)↔i=id∨i∈keys (uo++uf):=by
  intro i
  simp only[keys,dn,bR,bo,aX]
  constructor
  ·rintro(h|h|h)
   ·exact .inr (.inl h)
   ·exact .inl h
   ·exact .inr (.inr h)
  ·rintro(h|h|h)
   ·exact .inr (.inl h)
   ·exact .inl h
   ·exact .inr (.inr h)
 refine⟨M2,⟨ix.mem,h.Mm,h.cc.trans ix.cc,λi hi=> ?_,h.Vw,λq mI=> ?_,h.ion,λi hi e' l'=> ?_,λi hi=> ?_,λi=> ?_,h.uov,λu hu=> ?_,h.nd,λb hb=> ?_,h.Mn,h.none,h.iob,λi hi lA=> ?_⟩,ix.cc,JL⟩
 ·rw[Aa _ _ ahc]
  by_cases bS:i=id
  ·subst bS;rw[ay,ay]
  ·rw[az _ _ bS,az _ _ bS];exact h.ext i hi
 ·obtain⟨h1,h2,h3⟩:=h.S5 q mI
  have iI:q.1≠id:=λe=>vH (e▸eX mI)
  exact⟨by rw[az _ _ iI];exact h1,h2,h3⟩
 ·by_cases bS:i=id
  ·subst bS;rw[ay];intro h';cases h'
  ·rw[az _ _ bS]
   exact h.ks i (((jX i).1 hi).resolve_left bS) e' l'
 ·rcases(jX i).1 hi with rfl|hi
  ·exact⟨vH,e,l,h0⟩
  ·exact h.ksn i hi
 ·by_cases bS:i=id
  ·subst bS;exact .inr ⟨e,l,hq,ay _ _ _⟩
  ·rw[az _ _ bS];exact h.fz i
 ·rcases aX.1 hu with rfl|hu
  ·exact⟨e,l,rfl,h0⟩
  ·exact h.ufv u hu
 ·exact(JL b).2 ⟨h.hM b hb,λff=>h.none b hb id _ hq trivial ff⟩
 ·have iI:i≠id:=λe=>hi ((jX i).2 (.inl e))
  rw[az _ _ iI]
  exact h.same i (λh'=>hi ((jX i).2 (.inr h'))) lA
theorem jM.hand{H0 H1 Hq:Nat→Option bh}{M1:Nat→Prop}{uo uf:ja}{io:List (Nat×AM)}{hs:List Nat}(h:jM c w M ν H0 H1 Hq M1 uo uf io hs){id:Nat}{e:Ty}{l:List e.den}(bm:H1 id=some (.own e l)):
  jM c w M ν H0 (bT H1 id (some .gone)) (bT Hq id (some .gone)) M1 ((id,some .gone)::uo) uf io (hs++(fL (ν id)).toList):=by
 have vH:id∉keys io:=λhk=>by
  obtain⟨q,hq,rfl⟩:=cD.1 hk
  have:=(h.S5 q hq).1
  rw[bm]at this;cases this
 have UW:id∉keys (uo++uf):=λhk=>h.ks id hk e l bm
 have ahc:id∉keys uo:=λhk=>UW (by simp only[keys,dn,bo];exact .inl hk)
 have h0:H0 id=some (.own e l):=by rw[←h.same id UW vH];exact bm
 have hq:Hq id=some (.own e l):=h.fz.Zm bm
 have jX: ∀i,i∈keys ((id,some bh.gone)::uo++uf)↔i=id∨i∈keys (uo++uf):=by
  intro i
  simp only[keys,dn,bR,kL,bo,aX]
 have zX: ∀b,fL (ν id)=some b→b∉hs:=λb hb ff=>h.none b ff id _ hq trivial hb
 refine⟨(Tr.gone h.mem id).mem,(Tr.gone h.Mm id).mem,h.cc,λi hi=> ?_,λi hi=> ?_,λq mI=> ?_,h.ion,λi hi e' l'=> ?_,λi hi=> ?_,λi=> ?_,λu hu=> ?_,h.ufv,?_,λb hb=> ?_,λb hb=> ?_,λb hb i e' hi hm=> ?_,λb hb YK=> ?_,λi hi lA=> ?_⟩
 ·have:=Aa (id,some .gone) (uo++uf) UW [] H0
  simp only[cL]at this
  rw[kL,this]
  by_cases bS:i=id
  ·subst bS;rw[ay,ay]
  ·rw[az _ _ bS,az _ _ bS];exact h.ext i hi
 ·have:=Aa (id,some .gone) uo ahc [] H0
  simp only[cL]at this
  rw[this]
  by_cases bS:i=id
  ·subst bS;rw[ay,ay]
  ·rw[az _ _ bS,az _ _ bS];exact h.Vw i hi
 ·obtain⟨h1,h2,h3⟩:=h.S5 q mI
  have iI:q.1≠id:=λe=>vH (e▸eX mI)
  exact⟨by rw[az _ _ iI];exact h1,by rw[az _ _ iI];exact h2,h3⟩
 ·by_cases bS:i=id
  ·subst bS;rw[ay];intro h';cases h'
  ·rw[az _ _ bS]
   exact h.ks i (((jX i).1 hi).resolve_left bS) e' l'
 ·rcases(jX i).1 hi with rfl|hi
  ·exact⟨vH,e,l,h0⟩
  ·exact h.ksn i hi
 ·by_cases bS:i=id
  ·subst bS;left;rw[ay,ay]
  ·rw[az _ _ bS,az _ _ bS];exact h.fz i
 ·rcases aX.1 hu with rfl|hu
  ·rfl
  ·exact h.uov u hu
 ·refine ng.2 ⟨h.nd,?_,λx hx y hy=> ?_⟩
  ·cases fL (ν id)<;>simp
  ·rw[fu]at hy
   intro YL;subst YL
   exact zX x hy hx
 ·rcases bo.1 hb with hb|hb
  ·exact h.hM b hb
  ·rw[fu]at hb
   exact(h.mem.ln id _ bm).yb trivial hb
 ·rcases bo.1 hb with hb|hb
  ·exact h.Mn b hb
  ·rw[fu]at hb
   exact h.mem.new id _ b bm trivial hb
 ·by_cases bS:i=id
  ·subst bS;rw[ay]at hi;cases hi;simp[bh.mut]at hm
  ·rw[az _ _ bS]at hi
   rcases bo.1 hb with hb|hb
   ·exact h.none b hb i e' hi hm
   ·rw[fu]at hb
    intro ff
    exact h.Mm.zP i id e' _ b bS hi hm hq trivial ff hb
 ·rcases bo.1 hb with hb|hb
  ·exact h.iob b hb YK
  ·rw[fu]at hb
   exact absurd YK (h.mem.yG id e l b bm hb)
 ·have iI:i≠id:=λe=>hi ((jX i).2 (.inl e))
  rw[az _ _ iI]
  exact h.same i (λh'=>hi ((jX i).2 (.inr h'))) lA
theorem jM.ahd{H0 H1 Hq:Nat→Option bh}{M1:Nat→Prop}{uo uf:ja}{io:List (Nat×AM)}{hs:List Nat}(h:jM c w M ν H0 H1 Hq M1 uo uf io hs){id:Nat}{τ:Ty}{x:τ.den}(bm:H1 id=some (.obj τ x)):
  jM c w M ν H0 (bT H1 id (some .gone)) (bT Hq id (some .gone)) M1 uo uf (io++[(id,.io τ)]) (hs++(fL (ν id)).toList):=by
 have vH:id∉keys io:=λhk=>by
  obtain⟨q,hq,rfl⟩:=cD.1 hk
  have:=(h.S5 q hq).1
  rw[bm]at this;cases this
 have hq:Hq id=some (.obj τ x):=h.fz.al6 bm
 have UW:id∉keys (uo++uf):=λhk=>by
  have h1:=h.ext id vH
  obtain⟨_,e,l,h0⟩:=h.ksn id hk
  have key: ∀(ups:ja) (H:Nat→Option bh),(∀u∈ups,u.2=some .gone∨ ∃e l,u.2=some (.oS e l))→id∈keys ups→cY H ups id=some .gone∨ ∃e l,cY H ups id=some (.oS e l):=by
   intro ups
   induction ups with
   |nil=>intro H _ hk;simp[keys]at hk
   |cons u ups ih=>
    intro H hv hk
    by_cases YM:id∈keys ups
    ·exact ih _ (λv Vn=>hv v (a8 _ Vn)) YM
    ·show cY (bT H u.1 u.2) ups id=_∨ ∃e l,cY (bT H u.1 u.2) ups id=_
     rw[lN YM]
     have hui:id=u.1:=by
      simp only[keys,bR,aX]at hk YM
      exact hk.resolve_right YM
     rw[hui,ay]
     exact hv u bp
  have:=key (uo++uf) H0 (λu hu=>by
   rcases bo.1 hu with hu|hu
   ·exact .inl (h.uov u hu)
   ·obtain⟨e,l,h',_⟩:=h.ufv u hu;exact .inr ⟨e,l,h'⟩) hk
  rw[h1,bm]at this
  rcases this with h'|⟨_,_,h'⟩<;>cases h'
 have h0:H0 id=some (.obj τ x):=by rw[←h.same id UW vH];exact bm
 have jX: ∀i,i∈keys (io++[(id,.io τ)])↔i∈keys io∨i=id:=by
  intro i
  simp only[keys,dn,bR,iE,bo,aX,List.not_mem_nil,or_false]
 have zX: ∀b,fL (ν id)=some b→b∉hs:=λb hb ff=>h.none b ff id _ hq trivial hb
 refine⟨(Tr.gone h.mem id).mem,(Tr.gone h.Mm id).mem,h.cc,λi hi=> ?_,λi hi=> ?_,λq mI=> ?_,?_,λi hi e' l'=> ?_,λi hi=> ?_,λi=> ?_,h.uov,h.ufv,?_,λb hb=> ?_,λb hb=> ?_,λb hb i e' hi hm=> ?_,λb hb YK=> ?_,λi hi lA=> ?_⟩
 ·rw[az _ _ (λe=>hi ((jX i).2 (.inr e)))];exact h.ext i (λh'=>hi ((jX i).2 (.inl h')))
 ·rw[az _ _ (λe=>hi ((jX i).2 (.inr e)))];exact h.Vw i (λh'=>hi ((jX i).2 (.inl h')))
 ·rcases bo.1 mI with mI|mI
  ·obtain⟨h1,h2,h3⟩:=h.S5 q mI
   have iI:q.1≠id:=λe=>vH (e▸eX mI)
   exact⟨by rw[az _ _ iI];exact h1,by rw[az _ _ iI];exact h2,h3⟩
  ·rw[cm]at mI;subst mI
   exact⟨ay _ _ _,ay _ _ _,.inl ⟨τ,x,rfl,h0⟩⟩
 ·simp only[keys,dn,bR,iE]
  refine ng.2 ⟨h.ion,by simp,λx hx y hy=> ?_⟩
  rw[cm]at hy;subst hy
  intro e;exact vH (e▸hx)
 ·by_cases bS:i=id
  ·subst bS;rw[ay];intro h';cases h'
  ·rw[az _ _ bS];exact h.ks i hi e' l'
 ·obtain⟨h1,h2⟩:=h.ksn i hi
  exact⟨λh'=>((jX i).1 h').elim h1 (λe=>UW (e▸hi)),h2⟩
 ·by_cases bS:i=id
  ·subst bS;left;rw[ay,ay]
  ·rw[az _ _ bS,az _ _ bS];exact h.fz i
 ·refine ng.2 ⟨h.nd,?_,λx hx y hy=> ?_⟩
  ·cases fL (ν id)<;>simp
  ·rw[fu]at hy
   intro YL;subst YL
   exact zX x hy hx
 ·rcases bo.1 hb with hb|hb
  ·exact h.hM b hb
  ·rw[fu]at hb
   exact(h.mem.ln id _ bm).yb trivial hb
 ·rcases bo.1 hb with hb|hb
  ·exact h.Mn b hb
  ·rw[fu]at hb
   exact h.mem.new id _ b bm trivial hb
 ·by_cases bS:i=id
  ·subst bS;rw[ay]at hi;cases hi;simp[bh.mut]at hm
  ·rw[az _ _ bS]at hi
   rcases bo.1 hb with hb|hb
   ·exact h.none b hb i e' hi hm
   ·rw[fu]at hb
    intro ff
    exact h.Mm.zP i id e' _ b bS hi hm hq trivial ff hb
 ·rcases bo.1 hb with hb|hb
  ·obtain⟨q,hq1,YF⟩:=h.iob b hb YK
   exact⟨q,cQ _ hq1,YF⟩
  ·rw[fu]at hb
   exact⟨(id,.io τ),by simp,hb⟩
 ·have iI:i≠id:=λe=>lA ((jX i).2 (.inr e))
  rw[az _ _ iI]
  exact h.same i hi (λh'=>lA ((jX i).2 (.inl h')))
theorem jM.afI{H0 H1 Hq:Nat→Option bh}{M1:Nat→Prop}{uo uf:ja}{io:List (Nat×AM)}{hs:List Nat}(h:jM c w M ν H0 H1 Hq M1 uo uf io hs){id:Nat}{e:Ty}{l:List e.den}(bm:H1 id=some (.own e l)):
  jM c w M ν H0 (bT H1 id (some .gone)) (bT Hq id (some .gone)) M1 uo uf (io++[(id,.lo e)]) (hs++(fL (ν id)).toList):=by
 have vH:id∉keys io:=λhk=>by
  obtain⟨q,hq,rfl⟩:=cD.1 hk
  have:=(h.S5 q hq).1
  rw[bm]at this;cases this
 have hq:Hq id=some (.own e l):=h.fz.Zm bm
 have UW:id∉keys (uo++uf):=λhk=>h.ks id hk e l bm
 have h0:H0 id=some (.own e l):=by rw[←h.same id UW vH];exact bm
 have jX: ∀i,i∈keys (io++[(id,.lo e)])↔i∈keys io∨i=id:=by
  intro i
  simp only[keys,dn,bR,iE,bo,aX,List.not_mem_nil,or_false]
 have zX: ∀b,fL (ν id)=some b→b∉hs:=λb hb ff=>h.none b ff id _ hq trivial hb
 refine⟨(Tr.gone h.mem id).mem,(Tr.gone h.Mm id).mem,h.cc,λi hi=> ?_,λi hi=> ?_,λq mI=> ?_,?_,λi hi e' l'=> ?_,λi hi=> ?_,λi=> ?_,h.uov,h.ufv,?_,λb hb=> ?_,λb hb=> ?_,λb hb i e' hi hm=> ?_,λb hb YK=> ?_,λi hi lA=> ?_⟩
 ·rw[az _ _ (λe=>hi ((jX i).2 (.inr e)))];exact h.ext i (λh'=>hi ((jX i).2 (.inl h')))
 ·rw[az _ _ (λe=>hi ((jX i).2 (.inr e)))];exact h.Vw i (λh'=>hi ((jX i).2 (.inl h')))
 ·rcases bo.1 mI with mI|mI
  ·obtain⟨h1,h2,h3⟩:=h.S5 q mI
   have iI:q.1≠id:=λe=>vH (e▸eX mI)
   exact⟨by rw[az _ _ iI];exact h1,by rw[az _ _ iI];exact h2,h3⟩
  ·rw[cm]at mI;subst mI
   exact⟨ay _ _ _,ay _ _ _,.inr ⟨e,l,rfl,h0⟩⟩
 ·simp only[keys,dn,bR,iE]
  refine ng.2 ⟨h.ion,by simp,λx hx y hy=> ?_⟩
  rw[cm]at hy;subst hy
  intro e;exact vH (e▸hx)
 ·by_cases bS:i=id
  ·subst bS;rw[ay];intro h';cases h'
  ·rw[az _ _ bS];exact h.ks i hi e' l'
 ·obtain⟨h1,h2⟩:=h.ksn i hi
  exact⟨λh'=>((jX i).1 h').elim h1 (λe=>UW (e▸hi)),h2⟩
 ·by_cases bS:i=id
  ·subst bS;left;rw[ay,ay]
  ·rw[az _ _ bS,az _ _ bS];exact h.fz i
 ·refine ng.2 ⟨h.nd,?_,λx hx y hy=> ?_⟩
  ·cases fL (ν id)<;>simp
  ·rw[fu]at hy
   intro YL;subst YL
   exact zX x hy hx
 ·rcases bo.1 hb with hb|hb
  ·exact h.hM b hb
  ·rw[fu]at hb
   exact(h.mem.ln id _ bm).yb trivial hb
 ·rcases bo.1 hb with hb|hb
  ·exact h.Mn b hb
  ·rw[fu]at hb
   exact h.mem.new id _ b bm trivial hb
 ·by_cases bS:i=id
  ·subst bS;rw[ay]at hi;cases hi;simp[bh.mut]at hm
  ·rw[az _ _ bS]at hi
   rcases bo.1 hb with hb|hb
   ·exact h.none b hb i e' hi hm
   ·rw[fu]at hb
    intro ff
    exact h.Mm.zP i id e' _ b bS hi hm hq trivial ff hb
 ·rcases bo.1 hb with hb|hb
  ·obtain⟨q,hq1,YF⟩:=h.iob b hb YK
   exact⟨q,cQ _ hq1,YF⟩
  ·rw[fu]at hb
   exact⟨(id,.lo e),by simp,hb⟩
 ·have iI:i≠id:=λe=>lA ((jX i).2 (.inr e))
  rw[az _ _ iI]
  exact h.same i hi (λh'=>lA ((jX i).2 (.inl h')))
end VM
end
section
namespace VM
open Go
variable{P:Program}{E:Env}{o:Oper}{a:Act}{w:World}{M:Nat→Prop}{ν:Nat→Value}{σ:St}{c:Ctx}{α:Type}{r:α}{next:Act→World→Prop}{Q:Exit→Act→World→Prop}
theorem s8.Zn{H:Nat→Option bh}{id:Nat}{e e':bh}(bm:H id=some e)(hl:e.lK e'):s8 H ν (bT H id (some e')) ν:=
 ⟨λi e1 hi=>by
  by_cases bS:i=id
  ·subst bS;rw[bm]at hi;cases hi;exact⟨e',ay _ _ _,hl⟩
  ·exact⟨e1,by rw[az _ _ bS];exact hi,.refl e1⟩,λ_ _=>rfl⟩
theorem bh.kR(e:bh):e.lK .gone:=by cases e<;>simp[bh.lK]
theorem VR.al7{H H':Nat→Option bh}{ν':Nat→Value}{a:Ty}{x:a.den}{v:Value}(h:VR w M H ν (Ck a x) v):VR w M H' ν' (Ck a x) v:=by
 unfold Ck at h ⊢
 split at h
 ·simp only[VR]at h ⊢;exact h
 ·simp only[VR]at h ⊢;exact h
theorem ju.free{H H':Nat→Option bh}{ν':Nat→Value}: ∀{τ:Ty} {x:τ.den} {vs:List Value},ju w M H ν (pW τ x) vs→ju w M H' ν' (pW τ x) vs
 | .pair a b,x,v::vs,h=>by
  simp only[pW,ju]at h ⊢
  exact⟨VR.al7 h.1,ju.free h.2⟩
 | .pair a b,x,[],h=>by simp[pW,ju]at h
 | .int _,_,[],_| .bool,_,[],_| .str,_,[],_| .slice _,_,[],_| .unit,_,[],_| .arr _ _,_,[],_=>by simp[pW,ju]
 | .int _,_,_::_,h| .bool,_,_::_,h| .str,_,_::_,h| .slice _,_,_::_,h| .unit,_,_::_,h| .arr _ _,_,_::_,h=>by simp[pW,ju]at h
theorem Cx{H0 H1 Hq:Nat→Option bh}{M1:Nat→Prop}{uo uf:ja}{io:List (Nat×AM)}{hs:List Nat}(h:jM c w M ν H0 H1 Hq M1 uo uf io hs){m:AM}{x:bD}{v:Value}(hv:VR w M1 H1 ν x v)
  {k:m.den→(Nat→Option bh)→List Nat→ja→ja→List (Nat×AM)→Option α} (hk:oi m x H1 k=some r):
  ∃y H2 rd Lf Lg Hb UX M2,k y H2 rd Lf Lg Hb=some r∧jM c w M ν H0 H2 UX M2 (Lf++uo) (Lg++uf) (io++Hb) (hs++db m v)∧fh w M1 w M2∧s8 H1 ν H2 ν∧A1 w M2 m y v∧
   Hb.map (λq=>ν q.1)=(if m.iJ then [v]else [])∧Hb.map (·.2)=nC [m]:=by
 unfold oi at hk
 split at hk
 ·
  rename_i τ k
  obtain⟨y,rd,ups,hk,hy⟩:=D2 h.mem hv hk
  rcases hy with⟨rfl,hV⟩|⟨id,e,l,rfl,bm,hV⟩
  ·exact⟨y,H1,rd,[],[],[],Hq,M1,hk,by simpa [db]using h,.refl w M1,.refl H1 ν,hV,rfl,rfl⟩
  ·obtain⟨M2,hA,hK,JL⟩:=h.freeze bm
   exact⟨y,_,rd,[],_,[],Hq,M2,hk,by simpa [db]using hA,hK,.Zn bm ⟨rfl,rfl⟩,hV M2 JL,rfl,rfl⟩
 ·
  rename_i e k
  split at hk
  ·obtain⟨ad,hv⟩:=VR.emp.1 hv
   subst hv
   have hb:fL (.slice ad 0 0)=none:=by cases ad<;>simp[fL]
   exact⟨[],H1,[],[],[],[],Hq,M1,hk,by simpa [db,hb]using h,.refl w M1,.refl H1 ν,by simp only[A1,ER];exact .inl ⟨trivial,ad,rfl⟩,rfl,rfl⟩
  ·rename_i id
   split at hk
   ·rename_i e' l bm
    obtain⟨e1,hk⟩:=bC hk
    cases e1
    simp only[VR]at hv
    obtain⟨_,rfl⟩:=hv
    refine⟨_,_,_,_,_,_,_,M1,hk,by simpa [db]using h.hand bm,.refl w M1,.Zn bm (bh.kR _),?_,rfl,rfl⟩
    have:=h.mem.ln id _ bm
    exact this
   ·cases hk
  ·cases hk
 ·
  rename_i τ k
  split at hk
  ·rename_i id
   split at hk
   ·rename_i υ z bm
    obtain⟨e1,hk⟩:=bC hk
    subst e1
    simp only[VR]at hv
    obtain⟨e,he,oc⟩:=hv
    rw[bm]at he;cases he
    simp only[AR]at oc
    obtain⟨_,b,hb,hv⟩:=oc
    have Vx:v=ν id:=by rw[hv,hb];rfl
    subst Vx
    refine⟨_,_,_,_,_,_,_,M1,hk,by simpa [db]using h.ahd bm,.refl w M1,.Zn bm (bh.kR _),?_,rfl,rfl⟩
    have:=h.mem.ln id _ bm
    exact this
   ·cases hk
  ·cases hk
 ·
  rename_i f τ k
  split at hk
  ·rename_i f' cs
   obtain⟨hf,hk1⟩:=cB hk
   clear hk
   have hf:=fV hf
   subst hf
   have hk:=hk1
   clear hk1
   simp only[VR]at hv
   obtain⟨us,rfl,Zd⟩:=hv
   obtain⟨y,rd,ups,hk,hy⟩:=E6 h.mem Zd hk
   split at hk
   ·exact⟨y,H1,rd,[],[],[],Hq,M1,hk,by simpa [db]using h,.refl w M1,.refl H1 ν,by simp only[A1,VR];exact⟨us,rfl,hy rfl⟩,rfl,rfl⟩
   ·cases hk
  ·cases hk
 ·cases hk
 ·
  rename_i τ k
  split at hk
  ·rename_i υ z
   obtain⟨e1,hk⟩:=bC hk
   subst e1
   exact⟨_,H1,_,[],[],[],Hq,M1,hk,by simpa [db]using h,.refl w M1,.refl H1 ν,by simp only[A1,VR]at hv ⊢;exact hv,rfl,rfl⟩
  ·cases hk
 ·
  rename_i e k
  split at hk
  ·rename_i id
   split at hk
   ·rename_i e' l bm
    obtain⟨e1,hk⟩:=bC hk
    cases e1
    simp only[VR]at hv
    obtain⟨_,rfl⟩:=hv
    refine⟨_,_,_,_,_,_,_,M1,hk,by simpa [db]using h.afI bm,.refl w M1,.Zn bm (bh.kR _),?_,rfl,rfl⟩
    have:=h.mem.ln id _ bm
    exact this
   ·cases hk
  ·cases hk
theorem Cy{H0:Nat→Option bh}: ∀{ms:List AM} {p5:List bD} {vs:List Value} {H1 Hq:Nat→Option bh} {M1:Nat→Prop} {rd:List Nat} {uo uf:ja} {io:List (Nat×AM)} {hs:List Nat} {K:HP ms→List Nat→ja→ja→List (Nat×AM)→Option α},
  jM c w M ν H0 H1 Hq M1 uo uf io hs→ju w M1 H1 ν p5 vs→tN ms p5 H1 rd uo uf io K=some r→
  ∃x Bj Lf Lg Hb H2 UX M2,K x Bj Lf Lg Hb=some r∧jM c w M ν H0 H2 UX M2 Lf Lg Hb (hs++dX ms vs)∧fh w M1 w M2∧jL w M2 ms x vs∧
   Hb.map (λq=>ν q.1)=io.map (λq=>ν q.1)++fC ms vs∧Hb.map (·.2)=io.map (·.2)++nC ms
 |[],[],[],H1,Hq,M1,rd,uo,uf,io,hs,K,h,_,hk=>
  ⟨(),rd,uo,uf,io,H1,Hq,M1,hk,by simpa [dX]using h,.refl w M1,rfl,by simp[fC],by simp[nC]⟩
 |[m],[x],[v],H1,Hq,M1,rd,uo,uf,io,hs,K,h,hv,hk=>by
  simp only[ju,ec]at hv
  obtain⟨y,H2,rd1,uo1,uf1,io1,UX,M2,hk,hA,hK,hG,hy,Zo,UY⟩:=Cx h hv (hk:oi m x H1 _=some r)
  refine⟨y,_,_,_,_,H2,UX,M2,hk,by simpa [dX]using hA,hK,⟨v,[],rfl,hy,rfl⟩,?_,?_⟩
  ·rw[dn,Zo];cases vH:m.iJ<;>simp[fC,vH]
  ·rw[dn,UY]
 |m::n::ms,x::xs,v::vs,H1,Hq,M1,rd,uo,uf,io,hs,K,h,hv,hk=>by
  simp only[ju]at hv
  obtain⟨y,H2,rd1,uo1,uf1,io1,UX,M2,hk,hA,hK,hG,hy,Zo,UY⟩:=Cx h hv.1 (hk:oi m x H1 _=some r)
  obtain⟨ys,Bj,Lf,Lg,Hb,H3,Hq3,M3,hk,hA',hK',hys,hi3,hi4⟩:=Cy (ms:=n::ms) hA (ju.cc hK hG hv.2) hk
  refine⟨(y,ys),_,_,_,_,H3,Hq3,M3,hk,by simpa [dX,bM]using hA',hK.trans hK',⟨v,vs,rfl,?_,hys⟩,?_,?_⟩
  ·refine A1.wO hK' (λb hb=>⟨rfl,hA'.hM b ?_⟩) hy
   exact cQ _ (dD _ hb)
  ·rw[hi3,dn,Zo,bM]
   congr 1
   cases vH:m.iJ<;>simp[fC,vH]
  ·rw[hi4,dn,UY,bM]
   congr 1
   cases m<;>simp[nC]
 |[],_::_,_,_,_,_,_,_,_,_,_,_,_,_,hk=>by simp[tN]at hk
 |[_],[],_,_,_,_,_,_,_,_,_,_,_,_,hk=>by simp[tN]at hk
 |[_],_::_::_,_,_,_,_,_,_,_,_,_,_,_,_,hk=>by simp[tN]at hk
 |_::_::_,[],_,_,_,_,_,_,_,_,_,_,_,_,hk=>by simp[tN]at hk
 |_,_::_,[],_,_,_,_,_,_,_,_,_,_,hv,_=>by simp[ju]at hv
 |[],[],_::_,_,_,_,_,_,_,_,_,_,_,hv,_=>by simp[ju]at hv
 |[_],[_],_::_::_,_,_,_,_,_,_,_,_,_,_,hv,_=>by simp[ju]at hv
end VM
end
