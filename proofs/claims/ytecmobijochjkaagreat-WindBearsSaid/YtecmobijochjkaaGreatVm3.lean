/- A part of the proof of WindBears of layer 21: a machine that reads a function of the program as an equation between values. -/
import Derived.Test.YtecmobijochjkaaGreatVm2
import Derived.Great.FillDense
set_option linter.all false
section
namespace VM
open Go
variable{P:Program}{E:Env}{o:Oper}{a:Act}{w:World}{M:Nat→Prop}{ν:Nat→Value}{σ:St}{c:Ctx}{α:Type}{r:α}{next:Act→World→Prop}{Q:Exit→Act→World→Prop}
theorem VK(off:Nat)(new:Array Value)(cs:Array Value)(h:off+new.size≤cs.size):
  (new.zipIdx.foldl (λcs (x:Value×Nat)=>cs.setIfInBounds (off+x.2) x.1) cs)=(fc cs.toList off new.toList).toArray:=by
 have h1:new.zipIdx.foldl (λcs (x:Value×Nat)=>cs.setIfInBounds (off+x.2) x.1) cs=(new.toList.zipIdx 0).foldl (λcs (x:Value×Nat)=>cs.setIfInBounds (off+x.2) x.1) cs:=by
  rw[←Array.foldl_toList,Array.toList_zipIdx]
 rw[h1]
 obtain⟨hs,hk⟩:=Great.foldl_set off new.toList 0 cs
 apply Array.ext_getElem?
 intro k
 rw[hk k,←gV (xs:=cs)]
 have hl:new.toList.length=new.size:=bI
 have hc:cs.toList.length=cs.size:=bI
 unfold fc
 rw[L9]
 by_cases h2:k<off
 ·rw[ah ω,bu,ss (by rw[cf];omega),List.getElem?_take_of_lt h2]
 ·by_cases h3:k<off+new.size
  ·rw[aj ω,ss (by rw[aS,cf];omega),oI (by rw[cf];omega),cf]
   congr 1
   omega
  ·rw[ah ω,oI (by rw[aS,cf];omega),aS,cf,lS]
   congr 1
   omega
theorem Il{place:Nat→Option (Nat×Nat)}{cs:Array Value}{i:Nat}{v:Value}{rest:List (Nat×Value)}{off s:Nat}(hp:place i=some (off,s))(hs:v.cells.size=s)(h:off+s≤cs.size):
  Instr.fill place cs ((i,v)::rest)=Instr.fill place (fc cs.toList off v.cells.toList).toArray rest:=by
 have h1: ¬(decide (v.cells.size≠s)||decide (off+v.cells.size>cs.size))=true:=by simp[hs];omega
 conv=>lhs;unfold Instr.fill
 rw[hp]
 simp only
 rw[ah h1]
 congr 1
 exact VK off v.cells cs ω
theorem uC(a:Act)(ps:Array (Nat×Operand)):(ps.map λ(i,x)=>(i,a.eval x)).toList=ps.toList.map λp=>(p.1,a.eval p.2):=by
 rw[Array.toList_map]
def PR(w:World)(M:Nat→Prop)(H:Nat→Option bh)(ν:Nat→Value):List (Nat×bD)→List (Nat×Value)→Prop
 |[],[]=>True
 |p::ps,q::qs=>p.1=q.1∧VR w M H ν p.2 q.2∧PR w M H ν ps qs
 |_,_=>False
theorem PR.cc{w':World}{M':Nat→Prop}{H H':Nat→Option bh}{ν':Nat→Value}(k:fa w M w' M')(g:sY H ν H' ν'): ∀{ps:List (Nat×bD)} {qs:List (Nat×Value)},PR w M H ν ps qs→PR w' M' H' ν' ps qs
 |[],[],_=>trivial
 |_::_,_::_,h=>⟨h.1,h.2.1.cc k g,PR.cc k g h.2.2⟩
 |[],_::_,h=>h.elim
 |_::_,[],h=>h.elim
theorem Core.pr(hc:Core c σ a.tmps w M ν): ∀ps:List (Nat×Operand),PR w M σ.H ν (ps.map λp=>(p.1,σ.ρ p.2)) (ps.map λp=>(p.1,a.eval p.2))
 |[]=>trivial
 |p::ps=>⟨rfl,hc.ev p.2,hc.pr ps⟩
theorem Cu{e:Ty}{n:Nat}{H:Nat→Option bh}: ∀(ps:List (Nat×bD)) (qs:List (Nat×Value)) (H1:Nat→Option bh) (M:Nat→Prop) (l:List e.den) (cs:Array Value) (rd:List Nat) (ups:jb) (K:List e.den→List Nat→jb→Option α),
  Fz H H1→Mem c H1 w M ν→PR w M H1 ν ps qs→l.length=n→cs.size=n*e.size→qZ w M e cs.toList l→H1=c5 H ups→wj e H n ps l rd ups K=some r→
  ∃l' Bn ob M' cs',K l' Bn ob=some r∧Tr c H1 w M ν (c5 H ob) w M' ν∧Fz H (c5 H ob)∧l'.length=n∧cs'.size=n*e.size∧qZ w M' e cs'.toList l'∧
   Instr.fill (λi=>some (i*e.size,e.size)) cs qs=some cs':=by
 intro ps
 induction ps with
 |nil=>
  intro qs H1 M l cs rd ups K hz hm hp hl hs hr hH h
  cases qs with
  |cons _ _=>exact hp.elim
  |nil=>exact⟨l,rd,ups,M,cs,h,hH▸Tr.refl hm,hH▸hz,hl,hs,hr,rfl⟩
 |cons p ps ih=>
  intro qs H1 M l cs rd ups K hz hm hp hl hs hr hH h
  cases qs with
  |nil=>exact hp.elim
  |cons q qs=>
   obtain⟨h1,h2,h3⟩:=hp
   unfold wj at h
   obtain⟨hb,h⟩:=cB h
   have fb:p.1<n:=by simpa [zO]using hb
   obtain⟨y,rd1,Qa,M1,h,ix,hV,Cv,_⟩:=od hz hm h2 h
   have hlen:(q.2.cells).size=e.size:=by rw[←bI];exact hV.cells.length
   have hmul:=eB (s:=e.size) fb
   have yg:=qZ.set (hr.cc ix.cc) (by rw[hl,bI,hs];exact aG _) (i:=p.1) ω hV.cells
   obtain⟨l',Bn,ob,M',cs',hK,ag7,Dq,JT,RG,eO,hf⟩:=ih qs (c5 H1 Qa) M1 (l.set p.1 y) (fc cs.toList (p.1*e.size) q.2.cells.toList).toArray (rd1++rd) (ups++Qa) K Cv ix.mem (h3.cc ix.cc ix.goes)
    (by rw[bO];exact hl) (by rw[jd,gF (by rw[bI,bI];omega),bI,hs]) yg (by rw[gv,hH]) h
   refine⟨l',Bn,ob,M',cs',hK,ix.trans ag7,Dq,JT,RG,eO,?_⟩
   rw[Il (off:=p.1*e.size) (s:=e.size) (by rw[h1]) hlen ω]
   exact hf
theorem J4{τ:Ty}{H:Nat→Option bh}{place:Nat→Option (Nat×Nat)}(Hu: ∀(x:τ.den) n υ y o,Dl τ x n υ y o→place n=some (o,υ.size)):
  ∀(ps:List (Nat×bD)) (qs:List (Nat×Value)) (H1:Nat→Option bh) (M:Nat→Prop) (x:τ.den) (cs:Array Value) (rd:List Nat) (ups:jb) (K:τ.den→List Nat→jb→Option α),
  Fz H H1→Mem c H1 w M ν→PR w M H1 ν ps qs→Rd w M τ cs.toList x→H1=c5 H ups→uy τ H ps x rd ups K=some r→
  ∃x' Bn ob M' cs',K x' Bn ob=some r∧Tr c H1 w M ν (c5 H ob) w M' ν∧Fz H (c5 H ob)∧Rd w M' τ cs'.toList x'∧Instr.fill place cs qs=some cs'∧
   ∀m υ,JN τ m=some υ→(ps.all λp=> !(Nat.beq p.1 m))=true→(cs'.toList.drop (rV τ m)).take υ.size=(cs.toList.drop (rV τ m)).take υ.size:=by
 intro ps
 induction ps with
 |nil=>
  intro qs H1 M x cs rd ups K hz hm hp hr hH h
  cases qs with
  |cons _ _=>exact hp.elim
  |nil=>exact⟨x,rd,ups,M,cs,h,hH▸Tr.refl hm,hH▸hz,hr,rfl,λ_ _ _ _=>rfl⟩
 |cons p ps ih=>
  intro qs H1 M x cs rd ups K hz hm hp hr hH h
  cases qs with
  |nil=>exact hp.elim
  |cons q qs=>
   obtain⟨h1,h2,h3⟩:=hp
   unfold uy at h
   obtain⟨υ,y0,of,hf,h⟩:=tD h
   obtain⟨y,rd1,Qa,M1,h,ix,hV,Cv,_⟩:=od hz hm h2 h
   obtain⟨υ',y',o',k',Bo,jT,Hs⟩:=sB h
   obtain⟨rfl,rfl⟩:=Bo.eq
   obtain⟨rfl,rfl⟩:=hf.eq
   obtain⟨e1,LA⟩:=bC jT
   obtain⟨x',o0,_,kX⟩:=Hs _ _ LA
   have hlen:(q.2.cells).size=(vF τ p.1).size:=by rw[←bI];exact hV.cells.length
   have hb:=hf.bound
   have Mt:=hr.length
   rw[bI]at Mt
   obtain⟨x2,Bn,ob,M',cs',hK,ag7,Dq,eO,Td,Qb⟩:=ih qs (c5 H1 Qa) M1 x' (fc cs.toList (rV τ p.1) q.2.cells.toList).toArray (rd1++rd) (ups++Qa) K Cv ix.mem (h3.cc ix.cc ix.goes)
    (kX w M1 _ _ (hr.cc ix.cc) hV.cells) (by rw[gv,hH]) o0
   refine⟨x2,Bn,ob,M',cs',hK,ix.trans ag7,Dq,eO,?_,λm υ jT lz=> ?_⟩
   ·rw[Il (off:=rV τ p.1) (s:=(vF τ p.1).size) (by rw[←h1];exact Hu _ _ _ _ _ hf) hlen ω]
    exact Td
   ·rw[EF,bQ]at lz
    rw[Qb m υ jT lz.2]
    obtain⟨y2,o2,hf2⟩:=tE jT x
    obtain⟨e3,e4⟩:=hf2.eq
    subst e3 e4
    have jB:p.1≠m:=λe=>by have:=lz.1;rw[e,tz]at this;cases this
    have hap:=hf.apart hf2 jB
    have ui:=hf2.bound
    show((fc cs.toList (rV τ p.1) q.2.cells.toList).drop _).take _=_
    rw[JV (by rw[bI];omega) (by rw[bI,bI];omega)]
theorem fT.places: ∀(τ:Ty) (fs:Array Field) (n off:Nat),fT P τ (.inr (fs,n,off))→
  ∃ps,(fs.toList.drop n).mapM (λf=>(P.info? f.type).map λi=>(f.offset,i.size))=some ps∧ ∀(x:τ.den) m υ y o,Dl τ x m υ y o→ps[m]? =some (off+o,υ.size)
 | .unit,fs,n,off,h=>by
  simp only[fT]at h
  refine⟨[],?_,λx m υ y o hf=>by cases hf⟩
  rw[kI (by rw[bI];omega)];rfl
 | .pair t b,fs,n,off,h=>by
  simp only[fT]at h
  obtain⟨f,hf,ho,ha,hb⟩:=h
  obtain⟨ps,J5,Td⟩:=fT.places b fs (n+1) (off+t.size) hb
  obtain⟨i,hi,hs,_⟩:=(show kL P t f.type from ha).base
  have fb:n<fs.toList.length:=by rw[bI];exact(kH.1 hf).1
  have hfe:fs.toList[n]=f:=by rw[zz];exact(kH.1 hf).2
  refine⟨(off,t.size)::ps,?_,λx m υ y o Bo=> ?_⟩
  ·rw[pW fb,zG,J5,hfe,hi]
   simp[ho,hs]
  ·cases Bo with
   |here=>simp
   |there _ h'=>simp[Td _ _ _ _ _ h',oX]
 | .int _,_,_,_,h| .bool,_,_,_,h| .str,_,_,_,h| .slice _,_,_,_,h| .arr _ _,_,_,_,h=>by simp[fT]at h
theorem kL.places{τ:Ty}{t:TypeId}(h:kL P τ t)(ha:τ.isAgg=true)(hn: ∀n e,τ≠ .arr n e):
  ∃fs ps,P.underlying t=some (.struct fs)∧fs.toList.mapM (λf=>(P.info? f.type).map λi=>(f.offset,i.size))=some ps∧ ∀(x:τ.den) m υ y o,Dl τ x m υ y o→ps[m]? =some (o,υ.size):=by
 cases τ with
 |unit=>
  simp only[kL,fT]at h
  obtain⟨_,fs,hu,hs⟩:=h
  refine⟨fs,[],hu,?_,λx m υ y o hf=>by cases hf⟩
  have:fs.toList=[]:=uk (by rw[bI];exact hs)
  rw[this];rfl
 |pair t' b=>
  simp only[kL,fT]at h
  obtain⟨_,fs,f,hu,hf,ho,ha',hb⟩:=h
  have hg:fT P (.pair t' b) (.inr (fs,0,0)):=by
   simp only[fT]
   exact⟨f,hf,ho,ha',by simpa using hb⟩
  obtain⟨ps,J5,Td⟩:=fT.places _ fs 0 0 hg
  exact⟨fs,ps,hu,J5,λx m υ y o Bo=>by simpa using Td x m υ y o Bo⟩
 |arr n e=>exact absurd rfl (hn n e)
 |int _=>simp[Ty.isAgg]at ha
 |bool=>simp[Ty.isAgg]at ha
 |str=>simp[Ty.isAgg]at ha
 |slice _=>simp[Ty.isAgg]at ha
theorem Ac{ρ:Operand→Value}{t:TypeId}{ps:Array (Nat×Operand)}(ho:o.op= .build t ps){v:Value}(h:(Instr.build t (ps.map λ(i,x)=>(i,ρ x))).run P w= .ok v w):(execOp ρ o).run P w= .ok (.value v) w:=by
 simp[execOp,ho,h]
theorem Ad{ρ:Operand→Value}{t:TypeId}{n:Nat}{ps:Array (Nat×Operand)}(ho:o.op= .buildSlice t n ps){v:Value}{w':World}(h:(Instr.buildSlice t n (ps.map λ(i,x)=>(i,ρ x))).run P w= .ok v w'):(execOp ρ o).run P w= .ok (.value v) w':=by
 simp[execOp,ho,h]
theorem VR.RH{H:Nat→Option bh}{τ:Ty}(ha:τ.isAgg=true){cs:Array Value}{x:τ.den}(h:Rd w M τ cs.toList x):VR w M H ν (.val τ x) (.agg cs):=by
 simp only[VR,V];rw[aj ha];exact⟨cs,rfl,h⟩
theorem J6(hE:EnvTy P E)(hc:Core c σ a.tmps w M ν){t:TypeId}{ps:Array (Nat×Operand)}(ho:o.op= .build t ps){K:jf α}{n:Nat}{e:Ty}(ht:E.ty t=some (.arr n e))
  (h:wj e σ.H n (partsOf σ.ρ ps) (List.replicate n e.zero) [] [] (λl rd ups=>K (.val (.arr n e) l) rd ups)=some r) (hn:gg c σ a o w M ν K r next):o.wp P a w next Q:=by
 have hl:=hE.ty t _ ht
 obtain⟨e',hu,hle⟩:=hl.arr
 obtain⟨i,hi,hs,hz,_⟩:=hl.base
 obtain⟨ie,hie,hes,_⟩:=hle.base
 have Y0:=Rd.arr.1 (Rd.zero w M (.arr n e))
 obtain⟨l',Bn,ob,M',cs',hK,ix,Dq,JT,RG,eO,hf⟩:=Cu (partsOf σ.ρ ps) (ps.toList.map λ(p:Nat×Operand)=>(p.1,a.eval p.2)) σ.H M (List.replicate n e.zero) (Ty.dj (.arr n e)).toArray [] [] _ (.refl _) hc.mem (hc.pr ps.toList)
  (by rw[cU]) (by rw[jd];exact Y0.2.1) Y0.2.2 rfl h
 refine a8 (Ac ho (run_build w t _ cs' ?_)) (hn _ _ _ _ _ _ _ hK ix (VR.RH rfl (Rd.arr.2 ⟨JT,by rw[bI];exact RG,eO⟩)))
 unfold Program.built
 rw[hi,hu]
 simp only[hz,hie,hes,uC]
 exact hf
theorem Du(hE:EnvTy P E)(hc:Core c σ a.tmps w M ν){t:TypeId}{ps:Array (Nat×Operand)}(ho:o.op= .build t ps){K:jf α}{τ:Ty}(ht:E.ty t=some τ)(hna: ∀n e,τ≠ .arr n e)
  (h:cond τ.isAgg (uy τ σ.H (partsOf σ.ρ ps) τ.zero [] [] (λl rd ups=>K (Zh E (partsOf σ.ρ ps) τ l) rd ups)) none=some r) (hn:gg c σ a o w M ν K r next):o.wp P a w next Q:=by
 obtain⟨Mp,h⟩:=cB h
 have hl:=hE.ty t _ ht
 obtain⟨fs,pl,hu,J5,Hu⟩:=hl.places Mp hna
 obtain⟨i,hi,hs,hz,_⟩:=hl.base
 obtain⟨l',Bn,ob,M',cs',hK,ix,Dq,eO,hf,Qb⟩:=J4 (place:=(pl.toArray[·]?)) (λx n υ y o hf=>by simpa using Hu x n υ y o hf) (partsOf σ.ρ ps) (ps.toList.map λ(p:Nat×Operand)=>(p.1,a.eval p.2)) σ.H M τ.zero τ.dj.toArray [] [] _ (.refl _) hc.mem (hc.pr ps.toList)
  (Rd.zero w M τ) rfl h
 have hvr:VR w M' (c5 σ.H ob) ν (Zh E (partsOf σ.ρ ps) τ l') (.agg cs'):=by
  unfold Zh
  split
  ·rename_i n e sZ
   cases lz:(partsOf σ.ρ ps).all λp=> !(Nat.beq p.1 n)
   ·exact VR.RH Mp eO
   ·have hq:=RC sZ
    show VR w M' (c5 σ.H ob) ν (.JO τ l' n) (.agg cs')
    have hv:=VR.RH (H:=c5 σ.H ob) (ν:=ν) Mp eO
    simp only[VR]at hv ⊢
    refine⟨hv,cs',none,rfl,?_⟩
    have hfq:JN τ n=some (.slice e):=by
     unfold gO at hq
     split at hq
     ·rename_i a ha
      rw[ha]
      have:=bz hq
      rw[this]
     ·cases hq
    have h2:=Qb n _ hfq lz
    have h3:=Ih hq
    simp only[cF,m5]at h3
    have h4:=fj (λl=>l[0]?) h2
    simp only[lR,lS,m5]at h4
    rw[aj (show 0<(Ty.slice e).size from Nat.one_pos),aj (show 0<(Ty.slice e).size from Nat.one_pos)]at h4
    rw[h4];exact h3
  ·exact VR.RH Mp eO
 refine a8 (Ac ho (run_build w t _ cs' ?_)) (hn _ _ _ _ _ _ _ hK ix hvr)
 unfold Program.built
 rw[hi,hu]
 have hzc:(cM τ τ.dj).cells=τ.dj.toArray:=by apply js;rw[gW]
 simp only[hz,J5,uC,hzc]
 exact hf
theorem Hv(hE:EnvTy P E)(hc:Core c σ a.tmps w M ν){t:TypeId}{n:Nat}{ps:Array (Nat×Operand)}(ho:o.op= .buildSlice t n ps){K:jf α}{e:Ty}(ht:E.ty t=some (.slice e)){id:Nat}
  (h:cond (Nat.ble (n*(e.size+1)) 16777216) (qU σ.H id (.own e []) (wj e σ.H n (partsOf σ.ρ ps) (List.replicate n e.zero) [] [] λl rd ups=>K (.ref id) (id::rd) (ups++[(id,some (.own e l))]))) none=some r)
  (hn:gg c σ a o w M ν K r next):o.wp P a w next Q:=by
 obtain⟨hb,h⟩:=cB h
 obtain⟨bf,h⟩:=lx h
 have hb:=Ep hb
 rw[Nat.mul_add,Nat.mul_one]at hb
 obtain⟨e',hu,hle⟩:=(hE.ty t _ ht).slice
 obtain⟨ie,hie,hes,hz,_⟩:=hle.base
 obtain⟨l',Bn,ob,M',cs',hK,ix,Dq,JT,RG,eO,hf⟩:=Cu (partsOf σ.ρ ps) (ps.toList.map λ(p:Nat×Operand)=>(p.1,a.eval p.2)) σ.H M (List.replicate n e.zero) (madeCells (cM e e.dj).cells (n*e.size)) [] [] _ (.refl _) hc.mem (hc.pr ps.toList)
  (by rw[cU]) (size_madeCells _ _) (qZ.made w M e (aG _)) rfl h
 have agX:c5 σ.H ob id=none:=Dq.none bf
 have wz:=ix.trans (Tr.row ix.mem agX e' (e:=e) (cs:=cs') (l:=l') (cap:=n) ω (by simp[maxLen];omega) RG eO)
 have dE:(Instr.buildSlice t n (ps.map λ(i,x)=>(i,a.eval x))).run P w= .ok (.slice (some ⟨w.heap.size,0,none⟩) n n) (w.alloc (.cells cs' e')):=by
  by_cases h0:n*e.size=0
  ·rw[h0]at hf
   have hm0:madeCells (cM e e.dj).cells 0=(Array.range 0).map λi:Nat=>(#[]:Array Value)[i%0]! :=by simp[madeCells]
   rw[hm0]at hf
   rw[←uC]at hf
   simp[Instr.buildSlice,run_underlying hu,Go.sizeOf,typeInfo,hie,hes,h0,newRow]at hf ⊢
   simp[hf]
  ·refine run_buildSlice w t e' n _ cs' ie _ hu hie hz (by rw[hes];omega) (by rw[hes];exact h0) ?_
   rw[hes,uC]
   exact hf
 refine a8 (Ad ho dE) (hn _ _ _ _ _ (λb=>M' b∨b=w.heap.size) (dg ν id (.slice (some ⟨w.heap.size,0,none⟩) l'.length n)) hK ?_ ?_)
 ·rw[gv];exact wz
 ·simp only[VR]
  exact⟨by rw[gv];show bY _ id _ id≠none;rw[ax];simp,by simp[dg,JT]⟩
end VM
end
section
namespace VM
open Go
variable{P:Program}{E:Env}{o:Oper}{a:Act}{w:World}{M:Nat→Prop}{ν:Nat→Value}{σ:St}{c:Ctx}{α:Type}{r:α}{next:Act→World→Prop}{Q:Exit→Act→World→Prop}
def Y1(o:Option Value)(d l:Int):Prop:=(o=none∧l=d)∨ ∃k,o=some (.int k l)
theorem q4(hc:Core c σ a.tmps w M ν){x:Option Operand}{d:Int}{k:Int→Option α}(h:yN (x.map σ.ρ) d k=some r): ∃l,k l=some r∧Y1 (x.map a.eval) d l:=by
 cases x with
 |none=>exact⟨d,h,.inl ⟨rfl,rfl⟩⟩
 |some x=>
  obtain⟨i,n,hx,h⟩:=ng (h:wh (σ.ρ x) (λ_ x=>k x)=some r)
  have hv:=hc.ev x
  rw[hx]at hv
  exact⟨n,h,.inr ⟨i,by rw[←hv.int];rfl⟩⟩
theorem vp{s:Bool}{len cap:Nat}{lo hi mx:Option Value}{l h m:Int}(yi:Y1 lo 0 l)(LB:Y1 hi len h)(Hw:Y1 mx cap m)(hm:mx.isNone=true∨hi.isSome=true)
  (h0:0≤l) (h1:l≤h) (h2:h≤m) (h3:m≤cap):(Instr.sliceBounds s len cap lo hi mx).run P w= .ok (l.toNat,h.toNat,m.toNat) w:=by
 have hb: ∀(k:IntKind) (i:Int) (y:Nat) cd,0≤i→i≤y→(Instr.sliceBound (.int k i) y cd).run P w= .ok i.toNat w:=by
  intro k i y cd h1 h2
  simp[Instr.sliceBound,asIntOf,h1,h2]
 have jT:((m.toNat:Nat):Int)=m:=ω
 have hh':((h.toNat:Nat):Int)=h:=ω
 rcases Hw with⟨rfl,rfl⟩|⟨km,rfl⟩
 ·rcases LB with⟨rfl,rfl⟩|⟨kh,rfl⟩
  ·rcases yi with⟨rfl,rfl⟩|⟨kl,rfl⟩
   ·simp[Instr.sliceBounds]
   ·simp[Instr.sliceBounds,hb kl l len _ h0 h1]
  ·rcases yi with⟨rfl,rfl⟩|⟨kl,rfl⟩
   ·simp[Instr.sliceBounds,hb kh h cap _ ω h2]
   ·simp[Instr.sliceBounds,hb kh h cap _ ω h2,hb kl l h.toNat _ h0 ω]
 ·rcases LB with⟨rfl,rfl⟩|⟨kh,rfl⟩
  ·simp at hm
  ·rcases yi with⟨rfl,rfl⟩|⟨kl,rfl⟩
   ·simp[Instr.sliceBounds,hb km m cap _ ω h3,hb kh h m.toNat _ ω ω]
   ·simp[Instr.sliceBounds,hb km m cap _ ω h3,hb kh h m.toNat _ ω ω,hb kl l h.toNat _ h0 ω]
theorem Hy{ρ:Operand→Value}{t:TypeId}{x:Operand}{lo hi mx:Option Operand}(ho:o.op= .slice t x lo hi mx){s:ByteArray}{l h:Int}(hu:P.underlying t=some .string)(hx:ρ x= .string s)
  (yi:Y1 (lo.map ρ) 0 l) (LB:Y1 (hi.map ρ) s.size h) (Hw:mx.isNone=true) (h0:0≤l) (h1:l≤h) (h2:h≤s.size):(execOp ρ o).run P w= .ok (.value (.string (s.extract l.toNat h.toNat))) w:=by
 have hm:mx=none:=by simpa using Hw
 subst hm
 have hb:=vp (P:=P) (w:=w) (s:=false) yi LB (.inl ⟨rfl,rfl⟩) (.inl rfl) h0 h1 h2 (fJ _)
 simp[execOp,ho,hx,Instr.sliceAt,Instr.slice,run_underlying hu,hb]
theorem uD{ρ:Operand→Value}{t e:TypeId}{x:Operand}{lo hi mx:Option Operand}(ho:o.op= .slice t x lo hi mx){τ:Ty}{ad:Option Addr}{len cap:Nat}{l h m:Int}(hu:P.underlying t=some (.slice e))(hle:kL P τ e)(hx:ρ x= .slice ad len cap)
  (yi:Y1 (lo.map ρ) 0 l) (LB:Y1 (hi.map ρ) len h) (Hw:Y1 (mx.map ρ) cap m) (hm:(mx.map ρ).isNone=true∨(hi.map ρ).isSome=true) (h0:0≤l) (h1:l≤h) (h2:h≤m) (h3:m≤cap):
  (execOp ρ o).run P w= .ok (.value (.slice (if m.toNat=l.toNat then ad else ad.map (·.add (l.toNat*τ.size))) (h.toNat-l.toNat) (m.toNat-l.toNat))) w:=by
 have hb:=vp (P:=P) (w:=w) (s:=true) yi LB Hw hm h0 h1 h2 h3
 simp[execOp,ho,hx,Instr.sliceAt,Instr.slice,run_underlying hu,hb,de hle]
theorem Cw{x:Option Operand}(h:lU x=true)(a:Act): ∃k,x.map a.eval=some (.int k 0):=by
 unfold lU at h
 split at h
 ·rename_i k n
  have:n=0:=by simpa using h
  subst this
  exact⟨k,rfl⟩
 ·cases h
theorem Rd.cut{e:Ty}{ad:Option Addr}{len cap:Nat}{x:List e.den}(h:Rd w M (.slice e) [.slice ad len cap] x){l hh m:Int}(h0:0≤l)(h1:l≤hh)(h2:hh≤m)(hl:hh≤x.length):
  Rd w M (.slice e) [.slice (if m.toNat=l.toNat then ad else ad.map (·.add (l.toNat*e.size))) (hh.toNat-l.toNat) (m.toNat-l.toNat)] (List.drop l.toNat (List.take hh.toNat x)):=by
 simp only[Rd,fi,eT]at h ⊢
 obtain⟨a',nh,hv,hc,hr⟩:=h
 cases hv
 have hlen:List.length (List.drop l.toNat (List.take hh.toNat x))=hh.toNat-l.toNat:=by rw[dS,cf];omega
 refine⟨_,_,by rw[hlen],by rw[hlen];omega,λi hi=> ?_⟩
 rw[hlen]at hi
 obtain⟨b,off,ha,hb,hm,cs,p5,kX⟩:=hr (l.toNat+i) ω
 rw[ah ω]
 refine⟨b,off+l.toNat*e.size,by rw[ha];simp[Addr.add_lit],hb,hm,cs,?_,?_⟩
 ·rw[show off+l.toNat*e.size+i*e.size=off+(l.toNat+i)*e.size from by rw[eu];omega];exact p5
 ·simp only[Es,Ew,Ex]at kX ⊢
  exact kX
theorem VR.emp{H:Nat→Option bh}{v:Value}:VR w M H ν .emp v↔ ∃ad,v= .slice ad 0 0:=by simp[VR]
theorem VL(hE:EnvTy P E)(hc:Core c σ a.tmps w M ν){t:TypeId}{x:Operand}{lo hi mx:Option Operand}(ho:o.op= .slice t x lo hi mx){K:jf α}{τ:Ty}(ht:E.ty t=some τ)
  (h:qW τ (lo.isNone&&lU hi&&lU mx) (σ.ρ x) (lo.map σ.ρ) (hi.map σ.ρ) (mx.map σ.ρ) σ.H K=some r) (hn:gg c σ a o w M ν K r next):o.wp P a w next Q:=by
 have z7:=hE.ty t τ ht
 have hv:=hc.ev x
 have RI: ∀(e:Ty) (e':TypeId) (ad:Option Addr) (len cap:Nat),P.underlying t=some (.slice e')→kL P e e'→a.eval x= .slice ad len cap→(lo.isNone&&lU hi&&lU mx)=true→
   ∃ad',(execOp a.eval o).run P w= .ok (.value (.slice ad' 0 0)) w:=by
  intro e e' ad len cap hu hle hx hz
  simp only[bQ]at hz
  obtain⟨⟨h1,h2⟩,h3⟩:=hz
  have h1:lo=none:=by simpa using h1
  subst h1
  obtain⟨k2,h2⟩:=Cw h2 a
  obtain⟨k3,h3⟩:=Cw h3 a
  have:=uD (P:=P) (w:=w) ho hu hle hx (l:=0) (h:=0) (m:=0) (.inl ⟨rfl,rfl⟩) (.inr ⟨k2,h2⟩) (.inr ⟨k3,h3⟩) (.inr (by rw[h2];rfl)) ω ω ω ω
  exact⟨_,this⟩
 unfold qW at h
 split at h
 ·rename_i s hx
  obtain⟨hm,h⟩:=cB h
  obtain⟨l,h,yi⟩:=q4 hc h
  obtain⟨hh,h,LB⟩:=q4 hc h
  obtain⟨hk,h⟩:=cB h
  rw[zS]at hk
  obtain⟨h0,h1,h2,h3⟩:=bz hk
  rw[hx]at hv
  exact a8 (Hy ho z7.str hv.str yi LB (by simpa using hm) h0 h1 h2) (hn _ [] [] _ _ _ _ h (.refl hc.mem) (.mkStr _))
 ·rename_i e hx
  obtain⟨e',hu,hle⟩:=z7.slice
  rw[hx]at hv
  obtain⟨ad,hv⟩:=VR.emp.1 hv
  cases hz:(lo.isNone&&lU hi&&lU mx)
  ·rw[hz]at h
   replace h:cond (mx.map σ.ρ).isNone (yN (lo.map σ.ρ) 0 λl=>yN (hi.map σ.ρ) 0 λh=>cond (ka l h 0 0) (K .emp [] []) none) none=some r:=h
   obtain⟨hm,h⟩:=cB h
   obtain⟨l,h,yi⟩:=q4 hc h
   obtain⟨hh,h,LB⟩:=q4 hc h
   obtain⟨hk,hK⟩:=cB h
   rw[zS]at hk
   obtain⟨h0,h1,h2,h3⟩:=bz hk
   have jT:mx=none:=by simpa using hm
   subst jT
   have:=uD (P:=P) (w:=w) ho hu hle hv yi LB (.inl ⟨rfl,rfl⟩) (.inl rfl) h0 h1 (m:=0) ω ω
   refine a8 this (hn _ [] [] _ _ _ _ hK (.refl hc.mem) (VR.emp.2 ?_))
   rw[show hh.toNat-l.toNat=0 from by omega,show(0:Int).toNat-l.toNat=0 from by omega]
   exact⟨_,rfl⟩
  ·rw[hz]at h
   obtain⟨ad',dE⟩:=RI e e' ad 0 0 hu hle hv hz
   exact a8 dE (hn _ [] [] _ _ _ _ h (.refl hc.mem) (VR.emp.2 ⟨_,rfl⟩))
 ·rename_i e jB
  obtain⟨e',hu,hle⟩:=z7.slice
  cases hz:(lo.isNone&&lU hi&&lU mx)
  ·rw[hz]at h
   obtain⟨y,rd,ups,M',h,ix,hV,_⟩:=od (.refl _) hc.mem hv h
   replace h:cond ((mx.map σ.ρ).isNone||(hi.map σ.ρ).isSome) (yN (lo.map σ.ρ) 0 λl=>yN (hi.map σ.ρ) (List.length y:Int) λh=>yN (mx.map σ.ρ) (List.length y:Int) λm=>
    cond (ka l h m (List.length y:Int)) (K (.val (.slice e) (List.drop l.toNat (List.take h.toNat y))) rd ups) none) none=some r:=h
   obtain⟨hm,h⟩:=cB h
   obtain⟨l,h,yi⟩:=q4 hc h
   obtain⟨hh,h,LB⟩:=q4 hc h
   obtain⟨m,h,Hw⟩:=q4 hc h
   obtain⟨hk,h⟩:=cB h
   rw[zS]at hk
   obtain⟨h0,h1,h2,h3⟩:=bz hk
   have hr:=V.slice.1 hV
   have eO:=hr
   simp only[Rd,fi,eT]at eO
   obtain⟨ad,cap,hx,alE,_⟩:=eO
   rw[hx]at hr
   have jT:(mx.map a.eval).isNone=true∨(hi.map a.eval).isSome=true:=by
    simp only[m3,Option.isNone_map,Option.isSome_map]at hm ⊢;exact hm
   have ag9: ∃m',Y1 (mx.map a.eval) cap m'∧hh≤m'∧m'≤cap:=by
    rcases Hw with⟨h9,_⟩|⟨k,h9⟩
    ·exact⟨cap,.inl ⟨h9,rfl⟩,ω,fJ _⟩
    ·exact⟨m,.inr ⟨k,h9⟩,h2,ω⟩
   obtain⟨m',ag9,h4,h5⟩:=ag9
   have dE:=uD (P:=P) (w:=w) ho hu hle hx yi LB ag9 jT h0 h1 h4 h5
   refine a8 dE (hn _ _ _ _ _ M' _ h ix ?_)
   simp only[VR]
   exact V.slice.2 (hr.cut h0 h1 h4 ω)
  ·rw[hz]at h
   obtain⟨y,rd,h,hS⟩:=Cp hc.mem hv h
   obtain⟨ad,cap,hx,_⟩:=hS
   obtain⟨ad',dE⟩:=RI e e' ad _ cap hu hle hx hz
   exact a8 dE (hn _ _ [] _ _ _ _ h (.refl hc.mem) (VR.emp.2 ⟨_,rfl⟩))
 ·cases h
end VM
end
section
namespace VM
open Go
variable{P:Program}{E:Env}{o:Oper}{a:Act}{w:World}{M:Nat→Prop}{ν:Nat→Value}{σ:St}{c:Ctx}{α:Type}{r:α}{next:Act→World→Prop}{Q:Exit→Act→World→Prop}
theorem sC{t ty e:TypeId}{i:TypeInfo}(ht:P.underlying t=some (.slice e))(hi:P.info? e=some i)(base:Option Addr)(n cap:Nat)(h:n≤cap)(a':Option Addr)(cp:Nat):
  (Builtin.append_ #[t,t] ty #[.slice base n cap,.slice a' 0 cp]).run P w= .ok (.slice base n cap) w:=by
 cases a'<;>cases base<;>simp[Builtin.append_,run_underlying ht,Go.sizeOf,typeInfo,hi,Builtin.lenOf,h,Builtin.firstCells,loadCells,loadCellsFrom,storeCells]
theorem MB{t ty e te:TypeId}{i:TypeInfo}(ht:P.underlying t=some (.slice e))(hi:P.info? e=some i){b n cap m cp:Nat}{a':Addr}{news:List Value}{cs:Array Value}
  (hg:w.heap[b]? =some (.cells cs te (0,0))) (hs:cs.size=cap*i.size) (hl:news.length=m*i.size) (hn: ∀j u,news[j]? =some u→w.cell? (a'.add j)=some u) (h1: ∀u∈news,u.oneCell'=true) (hr:n+m≤cap):
  (Builtin.append_ #[t,t] ty #[.slice (some ⟨b,0,none⟩) n cap,.slice (some a') m cp]).run P w= .ok (.slice (some ⟨b,0,none⟩) (n+m) cap) (w.setRow b (fc cs.toList (n*i.size) news).toArray):=by
 have hf:=run_firstCells_some (P:=P) w i.size m a' m cp news hl hn
 have hm:(n+m)*i.size≤cap*i.size:=lO _ hr
 rw[eu]at hm
 have Hb:=run_storeCells_at (P:=P) b (n*i.size) te news 0 cs w hg ω h1
 simp only[m5]at Hb
 simp[Builtin.append_,run_underlying ht,Go.sizeOf,typeInfo,hi,Builtin.lenOf,hr,hf,Addr.add_lit,Hb,fc]
theorem ig{args:Array Operand}{t:TypeId}{x y:Operand}{v:Value}{w':World}(ho:o.op= .call {callee:= .builtin .append,args,argTypes:= #[t,t]})(ha:args.toList=[x,y])
  (h:(Builtin.append_ #[t,t] o.type #[a.eval x,a.eval y]).run P w= .ok v w'):(execOp a.eval o).run P w= .ok (.value v) w':=by
 obtain⟨cs,hr⟩:=qY (P:=P) (ρ:=a.eval) ho (w:=w)
 rw[hr]
 have:args.map a.eval= #[a.eval x,a.eval y]:=by apply js;simp[ha]
 rw[this]
 simp[builtin,h]
theorem E3{H:Nat→Option bh}(hm:Mem c H w M ν){id:Nat}(bf:H id=none){t ty:TypeId}{e':TypeId}{e:Ty}(hu:P.underlying t=some (.slice e'))(hle:kL P e e')
  {xs ys:List e.den} {olds news:List Value} {base:Option Addr} {cap cp:Nat} {a':Addr} (VN:base=none→xs=[]∧cap=0)
  (yi:olds.length=xs.length*e.size) (hro:qZ w M e olds xs) (ho: ∀b,base=some b→ ∀j u,olds[j]? =some u→w.cell? (b.add j)=some u)
  (Y2:news.length=ys.length*e.size) (hrn:qZ w M e news ys) (hn: ∀j u,news[j]? =some u→w.cell? (a'.add j)=some u)
  (hg:cap<xs.length+ys.length) (hs:xs.length+ys.length<zQ):
  ∃v w' M' ν',(Builtin.append_ #[t,t] ty #[.slice base xs.length cap,.slice (some a') ys.length cp]).run P w= .ok v w'∧Tr c H w M ν (bY H id (some (.own e (xs++ys)))) w' M' ν'∧ν' id=v:=by
 obtain⟨i,hi,tf,hz,hby⟩:=hle.base
 have hzs:(cM e e.dj).cells.size=e.size:=by rw[←bI,gW,oM]
 have h63:xs.length+ys.length≤maxLen:=by simp only[zQ,maxLen]at hs ⊢;omega
 have MC:(xs.length+ys.length)*i.bytes≤140737488355328:=by
  have:(xs.length+ys.length)*i.bytes≤68719476736*2048:=wb (by simp only[zQ]at hs;omega) hby
  omega
 have dE: ∃nh rest,(Builtin.append_ #[t,t] ty #[.slice base xs.length cap,.slice (some a') ys.length cp]).run P w= .ok (.slice (some ⟨w.heap.size,0,none⟩) (xs.length+ys.length) nh) (w.drew.alloc (.cells (olds++news++rest).toArray e'))∧
   xs.length+ys.length≤nh∧nh≤maxLen∧rest.length=(nh-(xs.length+ys.length))*e.size:=by
  refine⟨grownCap w (xs.length+ys.length) cap e',(Builtin.zeroCells (cM e e.dj).cells (grownCap w (xs.length+ys.length) cap e'-(xs.length+ys.length))).toList,?_,grownCap_ge _ _ _ _,grownCap_le_maxLen _ _ _ _ h63,?_⟩
  ·cases base with
   |none=>
    obtain⟨rfl,rfl⟩:=VN rfl
    have ho0:olds=[]:=uk (by rw[yi];simp)
    subst ho0
    have:=run_append_nil (P:=P) w t ty e' i _ hu hi hz a' ys.length cp news (by rw[Y2,tf]) hn (by simpa using hg) (by simp only[zQ]at hs;omega) (by simp at MC;omega)
    simp only[bT,gq,cL]
    rw[this]
    congr 2
    apply fj (λz=>Obj.cells z e' (0,0))
    apply js;simp
   |some b=>
    have:=run_append_grow (P:=P) w t ty e' i _ hu hi hz b xs.length cap olds (by rw[yi,tf]) (ho b rfl) a' ys.length cp news (by rw[Y2,tf]) hn hg (by simp only[zQ]at hs;omega) (growslice_fits hg MC)
    rw[this]
    congr 2
    apply fj (λz=>Obj.cells z e' (0,0))
    apply js;simp
  ·rw[bI,size_zeroCells,hzs]
 obtain⟨nh,rest,dE,LA,hc2,alJ⟩:=dE
 have hlen:(xs++ys).length=xs.length+ys.length:=aS
 have hd:=Tr.drew hm
 have hon:(olds++news).length=(xs++ys).length*e.size:=by rw[aS,yi,Y2,hlen,eu]
 have Qc:=Tr.row hd.mem bf e' (e:=e) (cs:=(olds++news++rest).toArray) (l:=xs++ys) (cap:=nh) (by rw[hlen];exact LA) hc2
  (by rw[jd,aS,hon,alJ,hlen,←eu];congr 1;omega)
  (qZ.more ((hro.append yi hrn).cc hd.cc) (by rw[hon];exact aG _))
 refine⟨_,_,_,_,dE,hd.trans Qc,?_⟩
 rw[←hlen];simp[dg]
theorem Tg(hE:EnvTy P E)(hc:Core c σ a.tmps w M ν){args:Array Operand}{ts:Array TypeId}{t t':TypeId}{x y:Operand}(ho:o.op= .call {callee:= .builtin .append,args,argTypes:=ts})(ha:args.toList=[x,y])(hts:ts.toList=[t,t']){K:jf α}{e:Ty}
  (ht:E.ty t=some (.slice e)) {id:Nat} (h:cond (Nat.beq t t') (qU σ.H id (.own e []) (Mj id e (σ.ρ x) (σ.ρ y) σ.H K)) none=some r) (hn:gg c σ a o w M ν K r next):o.wp P a w next Q:=by
 obtain⟨htt,h1⟩:=cB h
 clear h
 have htt:=fW htt
 subst htt
 obtain⟨bf,h⟩:=lx h1
 clear h1
 have aq5:ts= #[t,t]:=by apply js;simpa using hts
 subst aq5
 obtain⟨e',hu,hle⟩:=(hE.ty t _ ht).slice
 obtain⟨i,hi,tf,hz,hby⟩:=hle.base
 have J3:=hc.ev x
 unfold Mj at h
 obtain⟨ys,rd,h,hS⟩:=Cp hc.mem (hc.ev y) h
 have ahc:(ys=[]∧ ∃a' cp,a.eval y= .slice a' 0 cp)∨(ys≠[]∧ ∃a' cp news,a.eval y= .slice (some a') ys.length cp∧news.length=ys.length*e.size∧(∀j u,news[j]? =some u→w.cell? (a'.add j)=some u)∧qZ w M e news ys∧ ∀u∈news,u.oneCell'=true):=by
  by_cases hy:ys=[]
  ·left
   obtain⟨a',cp,hv,_⟩:=hS
   exact⟨hy,a',cp,by rw[hv,hy];rfl⟩
  ·right
   obtain⟨b,off,cp,news,hv,hl,p5,kX,h1⟩:=hS.cells hy
   exact⟨hy,⟨b,off,none⟩,cp,news,hv,hl,λj u hj=>by rw[Addr.add_lit];exact p5 j u hj,kX,h1⟩
 split at h
 ·
  rename_i hx
  rw[hx]at J3
  obtain⟨ad,J3⟩:=VR.emp.1 J3
  obtain⟨RJ,h⟩:=cB h
  rw[EM]at RJ
  have RJ:=bz RJ
  rcases ahc with⟨rfl,a',cp,Dr⟩|⟨hy,a',cp,news,Dr,hl,p5,kX,h1⟩
  ·refine a8 (ig ho ha (by rw[J3,Dr];exact sC hu hi ad 0 0 (aG _) a' cp)) (hn _ _ _ _ _ _ _ h (Tr.nothing hc.mem bf e ad) ?_)
   simp only[VR]
   exact⟨by show bY _ id _ id≠none;rw[ax];simp,by simp[dg]⟩
  ·have Hz:0<ys.length:=su.2 hy
   obtain⟨v,w',M',ν',dE,ix,hv⟩:=E3 (P:=P) (ty:=o.type) hc.mem bf hu hle (xs:=[]) (ys:=ys) (olds:=[]) (news:=news) (base:=ad) (cap:=0) (cp:=cp) (a':=a') (λ_=>⟨rfl,rfl⟩) (by simp) (λi hi=>absurd hi (by simp)) (λ_ _ j u hj=>by simp at hj)
    hl kX p5 (by simpa using Hz) (by simpa using RJ)
   refine a8 (ig ho ha (by rw[J3,Dr];exact dE)) (hn _ _ _ _ _ _ _ h ix ?_)
   simp only[VR]
   exact⟨by show bY _ id _ id≠none;rw[ax];simp,hv.symm⟩
 ·
  rename_i j hx
  rw[hx]at J3
  simp only[VR]at J3
  obtain⟨_,J3⟩:=J3
  split at h
  ·rename_i e1 l hj
   obtain⟨e2,h⟩:=bC h
   cases e2
   obtain⟨RJ,h⟩:=cB h
   rw[EM]at RJ
   have RJ:l.length+ys.length<zQ:=bz RJ
   have jB:id≠j:=λe=>by rw[e,hj]at bf;cases bf
   have pz:bY σ.H j (some .gone) id=none:=by rw[az _ _ jB];exact bf
   have PS:=Tr.gone hc.mem j
   have mM:=hc.mem.la j _ hj
   simp only[ER]at mM
   rcases mM with⟨rfl,ad,hjv⟩|⟨b,cs,te,cap,hjv,hg,hM,Vc,hl,G9,hs,hr⟩
   ·rw[hjv]at J3
    rcases ahc with⟨rfl,a',cp,Dr⟩|⟨hy,a',cp,news,Dr,hl,p5,kX,h1⟩
    ·refine a8 (ig ho ha (by rw[J3,Dr];exact sC hu hi ad 0 0 (aG _) a' cp)) (hn _ _ _ _ _ _ _ h (PS.trans (Tr.nothing PS.mem pz e ad)) ?_)
     simp only[VR]
     exact⟨by show bY _ id _ id≠none;rw[ax];simp,by simp[dg]⟩
    ·have Hz:0<ys.length:=su.2 hy
     obtain⟨v,w',M',ν',dE,ix,hv⟩:=E3 (P:=P) (ty:=o.type) PS.mem pz hu hle (xs:=[]) (ys:=ys) (olds:=[]) (news:=news) (base:=ad) (cap:=0) (cp:=cp) (a':=a') (λ_=>⟨rfl,rfl⟩) (by simp) (λi hi=>absurd hi (by simp)) (λ_ _ j u hj=>by simp at hj)
      hl kX p5 (by simpa using Hz) (by simpa using RJ)
     refine a8 (ig ho ha (by rw[J3,Dr];exact dE)) (hn _ _ _ _ _ _ _ h (PS.trans ix) ?_)
     simp only[VR]
     exact⟨by show bY _ id _ id≠none;rw[ax];simp,hv.symm⟩
   ·rw[hjv]at J3
    have Mt:cs.toList.length=cap*e.size:=by rw[bI,hs]
    have He:l.length*e.size≤cap*e.size:=lO _ hl
    rcases ahc with⟨rfl,a',cp,Dr⟩|⟨hy,a',cp,news,Dr,Y2,p5,kX,h1⟩
    ·refine a8 (ig ho ha (by rw[J3,Dr];exact sC hu hi _ _ cap hl a' cp)) (hn _ _ _ _ _ M (dg ν id (ν j)) h ?_ ?_)
     ·refine Tr.rename hc.mem hj bf (.inr rfl) ?_
      rw[ck]
      exact hc.mem.la j _ hj
     ·simp only[VR]
      exact⟨by show bY _ id _ id≠none;rw[ax];simp,by simp[dg,hjv]⟩
    ·by_cases Ae:l.length+ys.length≤cap
     ·have hmul:(l.length+ys.length)*e.size≤cap*e.size:=lO _ Ae
      rw[eu]at hmul
      have dE:=MB (P:=P) (ty:=o.type) hu hi (w:=w) (b:=b) (n:=l.length) (cap:=cap) (m:=ys.length) (cp:=cp) (a':=a') (news:=news) (cs:=cs) hg (by rw[hs,tf]) (by rw[Y2,tf]) p5 h1 Ae
      rw[tf]at dE
      have Zn:fc cs.toList (l.length*e.size) news=(cs.toList.take (l.length*e.size)++news)++cs.toList.drop (l.length*e.size+news.length):=rfl
      have hold:qZ w M e (cs.toList.take (l.length*e.size)) l:=qZ.take hr (aG _)
      have htl:(cs.toList.take (l.length*e.size)).length=l.length*e.size:=by rw[cf];omega
      have afR:qZ w M e (fc cs.toList (l.length*e.size) news) (l++ys):=by
       rw[Zn]
       refine qZ.more (hold.append htl kX) ?_
       rw[aS,aS,htl,Y2,eu];exact aG _
      have E4:(fc cs.toList (l.length*e.size) news).length=cap*e.size:=by rw[gF ω];exact Mt
      have Zw:Tr c σ.H w M ν (bY σ.H j (some (.own e l))) (w.setRow b (fc cs.toList (l.length*e.size) news).toArray) M ν:=by
       refine Tr.write (e':= .own e l) hc.mem hj trivial trivial (.refl _) (by rw[hjv];simp[fM];omega) hg λPO hk Bs=> ?_
       simp only[ER]
       refine .inr ⟨b,_,te,cap,hjv,setRow_heap w b cs _ te _ hg,Bs,Vc,hl,G9,by rw[jd];exact E4,λk Hs=> ?_⟩
       have:=(afR k (by rw[aS];omega)).cc hk
       rw[Ek Hs]at this
       exact this
      rw[Bq hj]at Zw
      have wz:Tr c σ.H (w.setRow b (fc cs.toList (l.length*e.size) news).toArray) M ν (bY (bY σ.H j (some .gone)) id (some (.own e (l++ys)))) (w.setRow b (fc cs.toList (l.length*e.size) news).toArray) M (dg ν id (.slice (some ⟨b,0,none⟩) (l++ys).length cap)):=by
       refine Tr.rename Zw.mem hj bf (.inr (by rw[hjv];simp[fM])) ?_
       simp only[ER]
       refine .inr ⟨b,_,te,cap,rfl,setRow_heap w b cs _ te _ hg,hM,Vc,by rw[aS];exact Ae,G9,by rw[jd];exact E4,(afR.cc Zw.cc)⟩
      refine a8 (ig ho ha (by rw[J3,Dr];exact dE)) (hn _ _ _ _ _ _ _ h (Zw.trans wz) ?_)
      simp only[VR]
      exact⟨by show bY _ id _ id≠none;rw[ax];simp,by simp[dg]⟩
     ·obtain⟨v,w',M',ν',dE,ix,hv⟩:=E3 (P:=P) (ty:=o.type) PS.mem pz hu hle (xs:=l) (ys:=ys) (olds:=cs.toList.take (l.length*e.size)) (news:=news) (base:=some ⟨b,0,none⟩) (cap:=cap) (cp:=cp) (a':=a') (λh=>by cases h)
       (by rw[cf];omega) (qZ.take hr (aG _)) (λb' eZ k u hk=>by
        cases eZ
        rw[Addr.add_lit,cell_of hg]
        rw[lR]at hk
        split at hk
        ·rw[←gV];simpa using hk
        ·cases hk)
       Y2 kX p5 ω RJ
      refine a8 (ig ho ha (by rw[J3,Dr];exact dE)) (hn _ _ _ _ _ _ _ h (PS.trans ix) ?_)
      simp only[VR]
      exact⟨by show bY _ id _ id≠none;rw[ax];simp,hv.symm⟩
  ·cases h
 ·cases h
end VM
end
section
namespace VM
open Go
variable{P:Program}{E:Env}{o:Oper}{a:Act}{w:World}{M:Nat→Prop}{ν:Nat→Value}{σ:St}{c:Ctx}{α:Type}{r:α}{next:Act→World→Prop}{Q:Exit→Act→World→Prop}
def tg:{m:AM}→{ms:List AM}→HP (m::ms)→m.den
 |_,[],x=>x
 |_,_::_,x=>x.1
def yj:{m:AM}→{ms:List AM}→HP (m::ms)→HP ms
 |_,[],_=>()
 |_,_::_,x=>x.2
def AM.iL:AM→Bool
 | .io _| .lo _=>true
 |_=>false
def AM.Zx:AM→Bool
 | .fn _ _| .jr _=>true
 |_=>false
def A1(w:World)(M:Nat→Prop):(m:AM)→m.den→Value→Prop
 | .v τ,x,v=>V w M τ v x
 | .own e,x,v=>ER w M v (.own e x)
 | .io τ,x,v=>ER w M v (.obj τ x)
 | .fn f τ,x,v=>VR w M (λ_=>none) (λ_=>undef) (.Mf f (pP τ x)) v
 | .ptr τ,x,v=>ER w M v (.obj τ x)
 | .jr τ,x,v=>VR w M (λ_=>none) (λ_=>undef) (.qT τ x) v
 | .lo e,x,v=>ER w M v (.own e x)
def jJ(w:World)(M:Nat→Prop):(ms:List AM)→HP ms→List Value→Prop
 |[],_,vs=>vs=[]
 |_::ms,x,vs=> ∃v LC,vs=v::LC∧A1 w M _ (tg x) v∧jJ w M ms (yj x) LC
def da:AM→Value→List Nat
 | .own _,v| .io _,v| .ptr _,v| .lo _,v=>(fM v).toList
 |_,_=>[]
def dO:List AM→List Value→List Nat
 |m::ms,v::vs=>da m v++dO ms vs
 |_,_=>[]
def fp:List AM→List Value→List Value
 |m::ms,v::vs=>if m.iL then v::fp ms vs else fp ms vs
 |_,_=>[]
def ni:List AM→List AM
 | .io τ::ms=> .io τ::ni ms
 | .lo e::ms=> .lo e::ni ms
 |_::ms=>ni ms
 |[]=>[]
def RR(w:World)(M:Nat→Prop):(ms:List AM)→HP ms→List Value→List Value→Prop
 |[],_,vs,ps=>vs=[]∧ps=[]
 |m::ms,x,vs,ps=>(∃p Hf,m.iL=true∧ps=p::Hf∧A1 w M m (tg x) p∧RR w M ms (yj x) vs Hf)∨
  (∃v LC,m.iL=false∧m.Zx=false∧vs=v::LC∧A1 w M m (tg x) v∧RR w M ms (yj x) LC ps)
def bF:List AM→List Value→List Value→List Nat
 |[],_,_=>[]
 |m::ms,vs,ps=>if m.iL then da m (ps.headD undef)++bF ms vs ps.tail else da m (vs.headD undef)++bF ms vs.tail ps
def Ty.flat:Ty→Bool
 | .slice _=>false
 | .pair a b=>a.flat&&b.flat
 | .arr _ e=>e.flat
 |_=>true
def AM.flat:AM→Bool
 | .v τ| .io τ| .own τ| .ptr τ| .lo τ=>τ.flat
 | .fn _ _| .jr _=>false
def wF(vs:List Value):Value:=if h:vs.length=1 then vs[0]else .tuple vs.toArray
structure Left(w:World)(M0:Nat→Prop)(hs:List Nat)(w':World)(M':Nat→Prop):Prop where
 sub: ∀b,M0 b→M' b
 EP: ∀b,M' b→b<w'.heap.size
 less: ∀b,b<w.heap.size→M' b→M0 b∨b∈hs
 frame: ∀b,b<w.heap.size→b∉hs→w'.heap[b]? =w.heap[b]?
 size:w.heap.size≤w'.heap.size
 os:w'.os=w.os
 tape:w'.tape=w.tape
 output:w'.output=w.output
def MD(P:Program)(f:FuncId)(args:Array Value)(w:World)(R:Value→World→Prop):Prop:=
 ∀(o:Oper) (a:Act) (next:Act→World→Prop) (Q:Exit→Act→World→Prop),(∀v w',R v w'→next (a.put o.dst v) w')→o.upon P a next Q ((callFunc f args).run P w)
theorem MD.mono{f:FuncId}{args:Array Value}{R R':Value→World→Prop}(h:MD P f args w R)(hr: ∀v w',R v w'→R' v w'):MD P f args w R':=
 λo a next Q hn=>h o a next Q λv w' hv=>hn v w' (hr v w' hv)
theorem s0{f:FuncId}{fn:Func}{args:Array Value}{R:Value→World→Prop}(hf:P.funcs[f]? =some fn)(hn:(fn.name== "runtime.NumGoroutine")=false)(hb:fn.body.isNone=false)
  (h:Calls P f args w λe w'=> ∃v,e= .returned v∧R v w'):MD P f args w R:=by
 intro o a next Q wG
 have hn': ¬fn.name= "runtime.NumGoroutine" :=by simpa using hn
 have eZ: ¬fn.body=none:=λe=>by rw[e]at hb;cases hb
 have:(callFunc f args).run P w= .ok (.enter f args) w:=by simp[callFunc,hf,hn',eZ]
 rw[this,Oper.upon_enter]
 refine Calls.mono h ?_
 rintro e w' ⟨v,rfl,hR⟩
 exact wG v w' hR
theorem HA{f:FuncId}{args:Array Value}{R:Value→World→Prop}{v:Value}{w':World}(h:(callFunc f args).run P w= .ok (.value v) w')(hR:R v w'):MD P f args w R:=by
 intro o a next Q wG
 rw[h,Oper.upon_value]
 exact wG v w' hR
structure iM(P:Program)(f:FuncId)(S:me):Prop where
 quiet:S.quiet=true→S.res.all AM.flat=true
 ios:ni S.args=ni S.res
 call: ∀(M0:Nat→Prop) (w:World) (vs:List Value) (x:HP S.args) (y:HP S.res),(∀b,M0 b→b<w.heap.size)→
  jJ w (λb=>M0 b∨b∈dO S.args vs) S.args x vs→(dO S.args vs).Nodup→(∀b∈dO S.args vs,¬M0 b)→S.run x=some y→
  MD P f vs.toArray w λv w'=> ∃us M',v=wF us∧RR w' M' S.res y us (fp S.args vs)∧Left w M0 (dO S.args vs) w' M'∧
   (bF S.res us (fp S.args vs)).Nodup∧ ∀b∈bF S.res us (fp S.args vs),¬M0 b
theorem Rd.flat{w:World}{M M':Nat→Prop}: ∀{τ:Ty} {cs:List Value} {x:τ.den},τ.flat=true→Rd w M τ cs x→Rd w M' τ cs x
 | .int _,_,_,_,h| .bool,_,_,_,h| .str,_,_,_,h| .unit,_,_,_,h=>h
 | .slice _,_,_,hf,_=>by simp[Ty.flat]at hf
 | .pair a b,_,_,hf,h=>by
  simp only[Ty.flat,bQ]at hf
  simp only[Rd]at h ⊢
  obtain⟨c1,c2,rfl,h1,h2⟩:=h
  exact⟨c1,c2,rfl,h1.flat hf.1,h2.flat hf.2⟩
 | .arr n e,_,x,hf,h=>by
  simp only[Ty.flat]at hf
  simp only[Rd]at h ⊢
  obtain⟨hn,S5,hc,rfl,hr⟩:=h
  exact⟨hn,S5,hc,rfl,λi hi nc=>(hr i hi nc).flat hf⟩
theorem A1.flat{w:World}{M M':Nat→Prop}(hM: ∀b,M b→M' b){m:AM}{x:m.den}{v:Value}(hf:m.flat=true)(h:A1 w M m x v):A1 w M' m x v:=by
 cases m with
 |v τ=>
  simp only[A1,V,AM.flat]at h hf ⊢
  split
  ·rename_i ha;rw[aj ha]at h;obtain⟨cs,h1,h⟩:=h;exact⟨cs,h1,h.flat hf⟩
  ·rename_i ha;rw[ah ha]at h;exact h.flat hf
 |own e=>
  simp only[A1,ER,AM.flat]at h hf ⊢
  rcases h with h|⟨b,cs,t,cap,h1,h2,h3,h4,h5,h6,h7,h8⟩
  ·exact .inl h
  ·exact .inr ⟨b,cs,t,cap,h1,h2,hM b h3,h4,h5,h6,h7,λi hi=>(h8 i hi).flat hf⟩
 |io τ=>
  simp only[A1,ER,AM.flat]at h hf ⊢
  obtain⟨b,cs,t,h1,h2,h3,h4⟩:=h
  exact⟨b,cs,t,h1,h2,hM b h3,h4.flat hf⟩
 |fn f τ=>simp[AM.flat]at hf
 |jr τ=>simp[AM.flat]at hf
 |lo e=>
  simp only[A1,ER,AM.flat]at h hf ⊢
  rcases h with h|⟨b,cs,t,cap,h1,h2,h3,h4,h5,h6,h7,h8⟩
  ·exact .inl h
  ·exact .inr ⟨b,cs,t,cap,h1,h2,hM b h3,h4,h5,h6,h7,λi hi=>(h8 i hi).flat hf⟩
 |ptr τ=>
  simp only[A1,ER,AM.flat]at h hf ⊢
  obtain⟨b,cs,t,h1,h2,h3,h4⟩:=h
  exact⟨b,cs,t,h1,h2,hM b h3,h4.flat hf⟩
theorem RR.flat{w:World}{M M':Nat→Prop}(hM: ∀b,M b→M' b): ∀{ms:List AM} {x:HP ms} {vs ps:List Value},ms.all AM.flat=true→RR w M ms x vs ps→RR w M' ms x vs ps
 |[],_,_,_,_,h=>h
 |m::ms,x,vs,ps,hf,h=>by
  simp only[EF,bQ]at hf
  simp only[RR]at h ⊢
  rcases h with⟨p,Hf,h1,h2,h3,h4⟩|⟨v,LC,h1,h2,h3,h4,h5⟩
  ·exact .inl ⟨p,Hf,h1,h2,h3.flat hM hf.1,RR.flat hM hf.2 h4⟩
  ·exact .inr ⟨v,LC,h1,h2,h3,h4.flat hM hf.1,RR.flat hM hf.2 h5⟩
theorem A1.wH{w w':World}{M M':Nat→Prop}(k:fa w M w' M'){m:AM}{x:m.den}{v:Value}(hm: ∀b∈da m v,w'.heap[b]? =w.heap[b]? ∧M' b)(h:A1 w M m x v):A1 w' M' m x v:=by
 cases m with
 |v τ=>exact V.cc k h
 |own e=>
  simp only[A1]at h ⊢
  exact ER.cc k (λ_ b hb=>hm b (by simp[da,hb])) h
 |io τ=>
  simp only[A1]at h ⊢
  exact ER.cc k (λ_ b hb=>hm b (by simp[da,hb])) h
 |fn f τ=>exact VR.cc k (.refl _ _) h
 |jr τ=>exact VR.cc k (.refl _ _) h
 |lo e=>
  simp only[A1]at h ⊢
  exact ER.cc k (λ_ b hb=>hm b (by simp[da,hb])) h
 |ptr τ=>
  simp only[A1]at h ⊢
  exact ER.cc k (λ_ b hb=>hm b (by simp[da,hb])) h
theorem jJ.wH{w w':World}{M M':Nat→Prop}(k:fa w M w' M'): ∀{ms:List AM} {x:HP ms} {vs:List Value},(∀b∈dO ms vs,w'.heap[b]? =w.heap[b]? ∧M' b)→jJ w M ms x vs→jJ w' M' ms x vs
 |[],_,_,_,h=>h
 |m::ms,x,vs,hm,h=>by
  simp only[jJ]at h ⊢
  obtain⟨v,LC,rfl,h1,h2⟩:=h
  exact⟨v,LC,rfl,h1.wH k (λb hb=>hm b (by simp[dO,hb])),jJ.wH k (λb hb=>hm b (by simp[dO,hb])) h2⟩
theorem RR.wH{w w':World}{M M':Nat→Prop}(k:fa w M w' M'): ∀{ms:List AM} {x:HP ms} {us ps:List Value},(∀b∈bF ms us ps,w'.heap[b]? =w.heap[b]? ∧M' b)→RR w M ms x us ps→RR w' M' ms x us ps
 |[],_,_,_,_,h=>h
 |m::ms,x,us,ps,hm,h=>by
  simp only[RR]at h ⊢
  rcases h with⟨p,Hf,h1,rfl,h2,h3⟩|⟨v,J7,h1,h2,rfl,h3,h4⟩
  ·simp only[bF,h1,gD,tp,tt,ba]at hm
   exact .inl ⟨p,Hf,h1,rfl,h2.wH k (λb hb=>hm b (.inl hb)),RR.wH k (λb hb=>hm b (.inr hb)) h3⟩
  ·simp only[bF,h1,jc,eU,tp,tt,ba]at hm
   exact .inr ⟨v,J7,h1,h2,rfl,h3.wH k (λb hb=>hm b (.inl hb)),RR.wH k (λb hb=>hm b (.inr hb)) h4⟩
theorem DY{H:Nat→Option bh}(hm:Mem c H w M ν){a:bD}{v:Value}(hv:VR w M H ν a v){τ:Ty}{k:τ.den→List Nat→jb→Option α}{r:α}(h:mc true a H τ k=some r):
  ∃y rd ups,k y rd ups=some r∧((ups=[]∧V w M τ v y)∨ ∃id e l,ups=[(id,some (.oK e l))]∧H id=some (.own e l)∧
   ∀M',(∀b,M' b↔(M b∧fM (ν id)≠some b))→V w M' τ v y):=by
 unfold mc at h
 split at h
 ·obtain⟨e,h⟩:=bC h
  subst e
  simp only[VR]at hv
  exact⟨_,[],[],h,.inl ⟨rfl,hv⟩⟩
 ·obtain⟨e,h⟩:=bC h
  subst e
  simp only[VR]at hv
  exact⟨_,[],[],h,.inl ⟨rfl,hv.1⟩⟩
 ·split at h
  ·rename_i e k' _
   simp only[VR]at hv
   obtain⟨a,rfl⟩:=hv
   refine⟨[],[],[],h,.inl ⟨rfl,V.slice.2 ?_⟩⟩
   simp only[Rd]
   exact⟨a,0,rfl,aG _,λi hi=>absurd hi (by simp)⟩
  ·cases h
 ·rename_i id
  simp only[VR]at hv
  obtain⟨_,rfl⟩:=hv
  split at h
  ·rename_i e l bf
   obtain⟨e',h⟩:=bC h
   subst e'
   refine⟨_,_,_,h,.inr ⟨id,e,l,rfl,bf,λM' hM'=> ?_⟩⟩
   obtain⟨M2,_,hV,JZ⟩:=Tr.freeze hm bf
   have:M'=M2:=by funext b;exact propext ((hM' b).trans (JZ b).symm)
   rw[this];exact hV
  ·rename_i e l bf
   obtain⟨e',h⟩:=bC h
   subst e'
   have:=hm.la id _ bf
   simp only[ER]at this
   exact⟨_,_,_,h,.inl ⟨rfl,V.slice.2 this.1⟩⟩
  ·cases h
 ·cases h
theorem VO{H:Nat→Option bh}(hm:Mem c H w M ν): ∀{a:Ty} {x:bD} {v:Value} {k:a.den→List Nat→jb→Option α} {r:α},VR w M H ν x v→Ck x H a k=some r→
  ∃y rd ups,k y rd ups=some r∧(ups=[]→VR w M (λ_=>none) (λ_=>undef) (Cl a y) v):=by
 intro a x v k r hv h
 unfold Ck at h
 split at h
 ·rename_i a k
  split at h
  ·rename_i υ z
   obtain⟨e1,h⟩:=bC h
   subst e1
   refine⟨_,_,_,h,λ_=> ?_⟩
   simp only[Cl,VR]at hv ⊢
   exact hv
  ·cases h
 ·rename_i k0 vN
  obtain⟨y,rd,ups,h,hy⟩:=DY hm hv h
  refine⟨y,rd,ups,h,λhu=> ?_⟩
  rcases hy with⟨_,hy⟩|⟨_,_,_,h3,_⟩
  ·have:Cl _ y= .val _ y:=by
    unfold Cl
    split
    ·exact(vN _ _ rfl HEq.rfl).elim
    ·rfl
   rw[this]
   simp only[VR];exact hy
  ·rw[hu]at h3;cases h3
theorem E5{H:Nat→Option bh}(hm:Mem c H w M ν): ∀{τ:Ty} {p3:List bD} {vs:List Value} {k:τ.den→List Nat→jb→Option α} {r:α},jt w M H ν p3 vs→qV H τ p3 k=some r→
  ∃x rd ups,k x rd ups=some r∧(ups=[]→jt w M (λ_=>none) (λ_=>undef) (pP τ x) vs)
 | .unit,[],[],k,r,_,h=>⟨(),[],[],h,λ_=>by simp[pP,jt]⟩
 | .pair a b,x::xs,v::vs,k,r,hv,h=>by
  simp only[jt]at hv
  unfold qV at h
  obtain⟨y,rd,ups,h,hy⟩:=VO hm hv.1 h
  obtain⟨ys,Bn,ob,h,hys⟩:=E5 hm hv.2 h
  refine⟨(y,ys),_,_,h,λhu=> ?_⟩
  have h1:ups=[]:=(L7.1 hu).1
  have h2:ob=[]:=(L7.1 hu).2
  simp only[pP,jt]
  exact⟨hy h1,hys h2⟩
 | .unit,[],_::_,_,_,hv,_=>by simp[jt]at hv
 |_,_::_,[],_,_,hv,_=>by simp[jt]at hv
 | .unit,_::_,_,_,_,_,h=>by simp[qV]at h
 | .pair _ _,[],_,_,_,_,h=>by simp[qV]at h
 | .int _,_,_,_,_,_,h| .bool,_,_,_,_,_,h| .str,_,_,_,_,_,h| .slice _,_,_,_,_,_,h| .arr _ _,_,_,_,_,_,h=>by simp[qV]at h
end VM
end
section
namespace VM
open Go
variable{P:Program}{E:Env}{o:Oper}{a:Act}{w:World}{M:Nat→Prop}{ν:Nat→Value}{σ:St}{c:Ctx}{α:Type}{r:α}{next:Act→World→Prop}{Q:Exit→Act→World→Prop}
def keys{β:Type}(l:List (Nat×β)):List Nat:=l.map (·.1)
theorem lA{i:Nat}: ∀{ups:jb} {H:Nat→Option bh},i∉keys ups→c5 H ups i=H i
 |[],_,_=>rfl
 |u::r,H,h=>by
  simp only[keys,bW,aX,not_or]at h
  show c5 (bY H u.1 u.2) r i=_
  rw[lA h.2,az _ _ h.1]
theorem Af(u:Nat×Option bh)(b:jb)(hb:u.1∉keys b): ∀(a:jb) (H:Nat→Option bh),c5 H (a++u::b)=bY (c5 H (a++b)) u.1 u.2
 |[],H=>by
  show c5 (bY H u.1 u.2) b=bY (c5 H b) u.1 u.2
  induction b generalizing H with
  |nil=>rfl
  |cons v b ih=>
   simp only[keys,bW,aX,not_or]at hb
   show c5 (bY (bY H u.1 u.2) v.1 v.2) b=bY (c5 (bY H v.1 v.2) b) u.1 u.2
   rw[←ih hb.2]
   congr 1
   funext i
   by_cases h1:i=v.1
   ·subst h1;rw[ax,az _ _ (eJ hb.1),ax]
   ·by_cases h2:i=u.1
    ·subst h2;rw[az _ _ h1,ax,ax]
    ·rw[az _ _ h1,az _ _ h2,az _ _ h2,az _ _ h1]
 |v::a,H=>Af u b hb a (bY H v.1 v.2)
def IoE(H:Nat→Option bh)(q:Nat×AM):Prop:=(∃(τ:Ty) (x:τ.den),q.2= .io τ∧H q.1=some (.obj τ x))∨ ∃(e:Ty) (l:List e.den),q.2= .lo e∧H q.1=some (.own e l)
theorem IoE.some{H:Nat→Option bh}{q:Nat×AM}(h:IoE H q):H q.1≠none:=by
 rcases h with⟨_,x,_,h⟩|⟨e,l,_,h⟩<;>rw[h]<;>simp
structure jK(c:Ctx)(w:World)(M:Nat→Prop)(ν:Nat→Value)(H0 H1 Hq:Nat→Option bh)(M1:Nat→Prop)(uo uf:jb)(io:List (Nat×AM))(hs:List Nat):Prop where
 mem:Mem c H1 w M1 ν
 ME:Mem c Hq w M ν
 cc:fa w M w M1
 ext: ∀i,i∉keys io→c5 H0 (uo++uf) i=H1 i
 VP: ∀i,i∉keys io→c5 H0 uo i=Hq i
 Th: ∀q∈io,H1 q.1=some .gone∧Hq q.1=some .gone∧IoE H0 q
 ion:(keys io).Nodup
 ks: ∀i∈keys (uo++uf),∀e l,H1 i≠some (.own e l)
 ksn: ∀i∈keys (uo++uf),i∉keys io∧ ∃e l,H0 i=some (.own e l)
 fz:Fz Hq H1
 uov: ∀u∈uo,u.2=some .gone
 ufv: ∀u∈uf,∃e l,u.2=some (.oK e l)∧H0 u.1=some (.own e l)
 nd:hs.Nodup
 hM: ∀b∈hs,M1 b
 MF: ∀b∈hs,c.B≤b∨c.may b
 none: ∀b∈hs,∀i e,Hq i=some e→e.mut→fM (ν i)≠some b
 iob: ∀b∈hs,c.M0 b→ ∃q∈io,fM (ν q.1)=some b
 same: ∀i,i∉keys (uo++uf)→i∉keys io→H1 i=H0 i
theorem jK.start{H:Nat→Option bh}(hm:Mem c H w M ν):jK c w M ν H H H M [] [] [] []:=
 ⟨hm,hm,.refl w M,λ_ _=>rfl,λ_ _=>rfl,λq hq=>by simp at hq,by simp[keys],λi hi=>by simp[keys]at hi,λi hi=>by simp[keys]at hi,.refl H,λu hu=>by simp at hu,λu hu=>by simp at hu,by simp,λb hb=>by simp at hb,λb hb=>by simp at hb,λb hb=>by simp at hb,λb hb=>by simp at hb,λ_ _ _=>rfl⟩
theorem Fz.Zy{H H1:Nat→Option bh}(h:Fz H H1){i:Nat}{e:Ty}{l:List e.den}(hi:H1 i=some (.own e l)):H i=some (.own e l):=by
 rcases h i with h'|⟨e',l',_,h'⟩
 ·rw[←h',hi]
 ·rw[hi]at h';cases h'
theorem Fz.alN{H H1:Nat→Option bh}(h:Fz H H1){i:Nat}{e:Ty}{l:e.den}(hi:H1 i=some (.obj e l)):H i=some (.obj e l):=by
 rcases h i with h'|⟨e',l',_,h'⟩
 ·rw[←h',hi]
 ·rw[hi]at h';cases h'
theorem Fz.mut{H H1:Nat→Option bh}(h:Fz H H1){i:Nat}{e:bh}(hi:H1 i=some e)(hm:e.mut):H i=some e:=by
 cases e with
 |obj=>exact h.alN hi
 |gk=>
  rcases h i with h'|⟨e',l',_,h'⟩
  ·rw[←h',hi]
  ·rw[hi]at h';cases h'
 |own=>exact h.Zy hi
 |oK=>simp[bh.mut]at hm
 |gone=>simp[bh.mut]at hm
theorem jK.freeze{H0 H1 Hq:Nat→Option bh}{M1:Nat→Prop}{uo uf:jb}{io:List (Nat×AM)}{hs:List Nat}(h:jK c w M ν H0 H1 Hq M1 uo uf io hs){id:Nat}{e:Ty}{l:List e.den}(bf:H1 id=some (.own e l)):
  ∃M2,jK c w M ν H0 (bY H1 id (some (.oK e l))) Hq M2 uo ((id,some (.oK e l))::uf) io hs∧fa w M1 w M2∧(∀b,M2 b↔(M1 b∧fM (ν id)≠some b)):=by
 obtain⟨M2,ix,_,JZ⟩:=Tr.freeze h.mem bf
 have vq:id∉keys io:=λhk=>by
  obtain⟨q,hq,rfl⟩:=cD.1 hk
  have:=(h.Th q hq).1
  rw[bf]at this;cases this
 have Ve:id∉keys (uo++uf):=λhk=>h.ks id hk e l bf
 have ahf:id∉keys uf:=λhk=>Ve (by simp only[keys,cZ,ba];exact .inr hk)
 have h0:H0 id=some (.own e l):=by rw[←h.same id Ve vq];exact bf
 have hq:Hq id=some (.own e l):=h.fz.Zy bf
 have ly: ∀i,i∈keys (uo++(id,some (bh.oK e l))::uf)↔i=id∨i∈keys (uo++uf):=by
  intro i
  simp only[keys,cZ,bW,ba,aX]
  constructor
  ·rintro(h|h|h)
   ·exact .inr (.inl h)
   ·exact .inl h
   ·exact .inr (.inr h)
  ·rintro(h|h|h)
   ·exact .inr (.inl h)
   ·exact .inl h
   ·exact .inr (.inr h)
 refine⟨M2,⟨ix.mem,h.ME,h.cc.trans ix.cc,λi hi=> ?_,h.VP,λq nS=> ?_,h.ion,λi hi e' l'=> ?_,λi hi=> ?_,λi=> ?_,h.uov,λu hu=> ?_,h.nd,λb hb=> ?_,h.MF,h.none,h.iob,λi hi nc=> ?_⟩,ix.cc,JZ⟩
 ·rw[Af _ _ ahf]
  by_cases bX:i=id
  ·subst bX;rw[ax,ax]
  ·rw[az _ _ bX,az _ _ bX];exact h.ext i hi
 ·obtain⟨h1,h2,h3⟩:=h.Th q nS
  have jB:q.1≠id:=λe=>vq (e▸eS nS)
  exact⟨by rw[az _ _ jB];exact h1,h2,h3⟩
 ·by_cases bX:i=id
  ·subst bX;rw[ax];intro h';cases h'
  ·rw[az _ _ bX]
   exact h.ks i (((ly i).1 hi).resolve_left bX) e' l'
 ·rcases(ly i).1 hi with rfl|hi
  ·exact⟨vq,e,l,h0⟩
  ·exact h.ksn i hi
 ·by_cases bX:i=id
  ·subst bX;exact .inr ⟨e,l,hq,ax _ _ _⟩
  ·rw[az _ _ bX];exact h.fz i
 ·rcases aX.1 hu with rfl|hu
  ·exact⟨e,l,rfl,h0⟩
  ·exact h.ufv u hu
 ·exact(JZ b).2 ⟨h.hM b hb,λeZ=>h.none b hb id _ hq trivial eZ⟩
 ·have jB:i≠id:=λe=>hi ((ly i).2 (.inl e))
  rw[az _ _ jB]
  exact h.same i (λh'=>hi ((ly i).2 (.inr h'))) nc
theorem jK.hand{H0 H1 Hq:Nat→Option bh}{M1:Nat→Prop}{uo uf:jb}{io:List (Nat×AM)}{hs:List Nat}(h:jK c w M ν H0 H1 Hq M1 uo uf io hs){id:Nat}{e:Ty}{l:List e.den}(bf:H1 id=some (.own e l)):
  jK c w M ν H0 (bY H1 id (some .gone)) (bY Hq id (some .gone)) M1 ((id,some .gone)::uo) uf io (hs++(fM (ν id)).toList):=by
 have vq:id∉keys io:=λhk=>by
  obtain⟨q,hq,rfl⟩:=cD.1 hk
  have:=(h.Th q hq).1
  rw[bf]at this;cases this
 have Ve:id∉keys (uo++uf):=λhk=>h.ks id hk e l bf
 have ahf:id∉keys uo:=λhk=>Ve (by simp only[keys,cZ,ba];exact .inl hk)
 have h0:H0 id=some (.own e l):=by rw[←h.same id Ve vq];exact bf
 have hq:Hq id=some (.own e l):=h.fz.Zy bf
 have ly: ∀i,i∈keys ((id,some bh.gone)::uo++uf)↔i=id∨i∈keys (uo++uf):=by
  intro i
  simp only[keys,cZ,bW,kJ,ba,aX]
 have z8: ∀b,fM (ν id)=some b→b∉hs:=λb hb eZ=>h.none b eZ id _ hq trivial hb
 refine⟨(Tr.gone h.mem id).mem,(Tr.gone h.ME id).mem,h.cc,λi hi=> ?_,λi hi=> ?_,λq nS=> ?_,h.ion,λi hi e' l'=> ?_,λi hi=> ?_,λi=> ?_,λu hu=> ?_,h.ufv,?_,λb hb=> ?_,λb hb=> ?_,λb hb i e' hi hm=> ?_,λb hb Y3=> ?_,λi hi nc=> ?_⟩
 ·have:=Af (id,some .gone) (uo++uf) Ve [] H0
  simp only[cL]at this
  rw[kJ,this]
  by_cases bX:i=id
  ·subst bX;rw[ax,ax]
  ·rw[az _ _ bX,az _ _ bX];exact h.ext i hi
 ·have:=Af (id,some .gone) uo ahf [] H0
  simp only[cL]at this
  rw[this]
  by_cases bX:i=id
  ·subst bX;rw[ax,ax]
  ·rw[az _ _ bX,az _ _ bX];exact h.VP i hi
 ·obtain⟨h1,h2,h3⟩:=h.Th q nS
  have jB:q.1≠id:=λe=>vq (e▸eS nS)
  exact⟨by rw[az _ _ jB];exact h1,by rw[az _ _ jB];exact h2,h3⟩
 ·by_cases bX:i=id
  ·subst bX;rw[ax];intro h';cases h'
  ·rw[az _ _ bX]
   exact h.ks i (((ly i).1 hi).resolve_left bX) e' l'
 ·rcases(ly i).1 hi with rfl|hi
  ·exact⟨vq,e,l,h0⟩
  ·exact h.ksn i hi
 ·by_cases bX:i=id
  ·subst bX;left;rw[ax,ax]
  ·rw[az _ _ bX,az _ _ bX];exact h.fz i
 ·rcases aX.1 hu with rfl|hu
  ·rfl
  ·exact h.uov u hu
 ·refine pY.2 ⟨h.nd,?_,λx hx y hy=> ?_⟩
  ·cases fM (ν id)<;>simp
  ·rw[fh]at hy
   intro Y4;subst Y4
   exact z8 x hy hx
 ·rcases ba.1 hb with hb|hb
  ·exact h.hM b hb
  ·rw[fh]at hb
   exact(h.mem.la id _ bf).yf trivial hb
 ·rcases ba.1 hb with hb|hb
  ·exact h.MF b hb
  ·rw[fh]at hb
   exact h.mem.new id _ b bf trivial hb
 ·by_cases bX:i=id
  ·subst bX;rw[ax]at hi;cases hi;simp[bh.mut]at hm
  ·rw[az _ _ bX]at hi
   rcases ba.1 hb with hb|hb
   ·exact h.none b hb i e' hi hm
   ·rw[fh]at hb
    intro eZ
    exact h.ME.zW i id e' _ b bX hi hm hq trivial eZ hb
 ·rcases ba.1 hb with hb|hb
  ·exact h.iob b hb Y3
  ·rw[fh]at hb
   exact absurd Y3 (h.mem.yO id e l b bf hb)
 ·have jB:i≠id:=λe=>hi ((ly i).2 (.inl e))
  rw[az _ _ jB]
  exact h.same i (λh'=>hi ((ly i).2 (.inr h'))) nc
theorem jK.ahg{H0 H1 Hq:Nat→Option bh}{M1:Nat→Prop}{uo uf:jb}{io:List (Nat×AM)}{hs:List Nat}(h:jK c w M ν H0 H1 Hq M1 uo uf io hs){id:Nat}{τ:Ty}{x:τ.den}(bf:H1 id=some (.obj τ x)):
  jK c w M ν H0 (bY H1 id (some .gone)) (bY Hq id (some .gone)) M1 uo uf (io++[(id,.io τ)]) (hs++(fM (ν id)).toList):=by
 have vq:id∉keys io:=λhk=>by
  obtain⟨q,hq,rfl⟩:=cD.1 hk
  have:=(h.Th q hq).1
  rw[bf]at this;cases this
 have hq:Hq id=some (.obj τ x):=h.fz.alN bf
 have Ve:id∉keys (uo++uf):=λhk=>by
  have h1:=h.ext id vq
  obtain⟨_,e,l,h0⟩:=h.ksn id hk
  have key: ∀(ups:jb) (H:Nat→Option bh),(∀u∈ups,u.2=some .gone∨ ∃e l,u.2=some (.oK e l))→id∈keys ups→c5 H ups id=some .gone∨ ∃e l,c5 H ups id=some (.oK e l):=by
   intro ups
   induction ups with
   |nil=>intro H _ hk;simp[keys]at hk
   |cons u ups ih=>
    intro H hv hk
    by_cases Y5:id∈keys ups
    ·exact ih _ (λv VF=>hv v (aY _ VF)) Y5
    ·show c5 (bY H u.1 u.2) ups id=_∨ ∃e l,c5 (bY H u.1 u.2) ups id=_
     rw[lA Y5]
     have hui:id=u.1:=by
      simp only[keys,bW,aX]at hk Y5
      exact hk.resolve_right Y5
     rw[hui,ax]
     exact hv u bg
  have:=key (uo++uf) H0 (λu hu=>by
   rcases ba.1 hu with hu|hu
   ·exact .inl (h.uov u hu)
   ·obtain⟨e,l,h',_⟩:=h.ufv u hu;exact .inr ⟨e,l,h'⟩) hk
  rw[h1,bf]at this
  rcases this with h'|⟨_,_,h'⟩<;>cases h'
 have h0:H0 id=some (.obj τ x):=by rw[←h.same id Ve vq];exact bf
 have ly: ∀i,i∈keys (io++[(id,.io τ)])↔i∈keys io∨i=id:=by
  intro i
  simp only[keys,cZ,bW,je,ba,aX,List.not_mem_nil,or_false]
 have z8: ∀b,fM (ν id)=some b→b∉hs:=λb hb eZ=>h.none b eZ id _ hq trivial hb
 refine⟨(Tr.gone h.mem id).mem,(Tr.gone h.ME id).mem,h.cc,λi hi=> ?_,λi hi=> ?_,λq nS=> ?_,?_,λi hi e' l'=> ?_,λi hi=> ?_,λi=> ?_,h.uov,h.ufv,?_,λb hb=> ?_,λb hb=> ?_,λb hb i e' hi hm=> ?_,λb hb Y3=> ?_,λi hi nc=> ?_⟩
 ·rw[az _ _ (λe=>hi ((ly i).2 (.inr e)))];exact h.ext i (λh'=>hi ((ly i).2 (.inl h')))
 ·rw[az _ _ (λe=>hi ((ly i).2 (.inr e)))];exact h.VP i (λh'=>hi ((ly i).2 (.inl h')))
 ·rcases ba.1 nS with nS|nS
  ·obtain⟨h1,h2,h3⟩:=h.Th q nS
   have jB:q.1≠id:=λe=>vq (e▸eS nS)
   exact⟨by rw[az _ _ jB];exact h1,by rw[az _ _ jB];exact h2,h3⟩
  ·rw[bV]at nS;subst nS
   exact⟨ax _ _ _,ax _ _ _,.inl ⟨τ,x,rfl,h0⟩⟩
 ·simp only[keys,cZ,bW,je]
  refine pY.2 ⟨h.ion,by simp,λx hx y hy=> ?_⟩
  rw[bV]at hy;subst hy
  intro e;exact vq (e▸hx)
 ·by_cases bX:i=id
  ·subst bX;rw[ax];intro h';cases h'
  ·rw[az _ _ bX];exact h.ks i hi e' l'
 ·obtain⟨h1,h2⟩:=h.ksn i hi
  exact⟨λh'=>((ly i).1 h').elim h1 (λe=>Ve (e▸hi)),h2⟩
 ·by_cases bX:i=id
  ·subst bX;left;rw[ax,ax]
  ·rw[az _ _ bX,az _ _ bX];exact h.fz i
 ·refine pY.2 ⟨h.nd,?_,λx hx y hy=> ?_⟩
  ·cases fM (ν id)<;>simp
  ·rw[fh]at hy
   intro Y4;subst Y4
   exact z8 x hy hx
 ·rcases ba.1 hb with hb|hb
  ·exact h.hM b hb
  ·rw[fh]at hb
   exact(h.mem.la id _ bf).yf trivial hb
 ·rcases ba.1 hb with hb|hb
  ·exact h.MF b hb
  ·rw[fh]at hb
   exact h.mem.new id _ b bf trivial hb
 ·by_cases bX:i=id
  ·subst bX;rw[ax]at hi;cases hi;simp[bh.mut]at hm
  ·rw[az _ _ bX]at hi
   rcases ba.1 hb with hb|hb
   ·exact h.none b hb i e' hi hm
   ·rw[fh]at hb
    intro eZ
    exact h.ME.zW i id e' _ b bX hi hm hq trivial eZ hb
 ·rcases ba.1 hb with hb|hb
  ·obtain⟨q,hq1,YZ⟩:=h.iob b hb Y3
   exact⟨q,cW _ hq1,YZ⟩
  ·rw[fh]at hb
   exact⟨(id,.io τ),by simp,hb⟩
 ·have jB:i≠id:=λe=>nc ((ly i).2 (.inr e))
  rw[az _ _ jB]
  exact h.same i hi (λh'=>nc ((ly i).2 (.inl h')))
theorem jK.afS{H0 H1 Hq:Nat→Option bh}{M1:Nat→Prop}{uo uf:jb}{io:List (Nat×AM)}{hs:List Nat}(h:jK c w M ν H0 H1 Hq M1 uo uf io hs){id:Nat}{e:Ty}{l:List e.den}(bf:H1 id=some (.own e l)):
  jK c w M ν H0 (bY H1 id (some .gone)) (bY Hq id (some .gone)) M1 uo uf (io++[(id,.lo e)]) (hs++(fM (ν id)).toList):=by
 have vq:id∉keys io:=λhk=>by
  obtain⟨q,hq,rfl⟩:=cD.1 hk
  have:=(h.Th q hq).1
  rw[bf]at this;cases this
 have hq:Hq id=some (.own e l):=h.fz.Zy bf
 have Ve:id∉keys (uo++uf):=λhk=>h.ks id hk e l bf
 have h0:H0 id=some (.own e l):=by rw[←h.same id Ve vq];exact bf
 have ly: ∀i,i∈keys (io++[(id,.lo e)])↔i∈keys io∨i=id:=by
  intro i
  simp only[keys,cZ,bW,je,ba,aX,List.not_mem_nil,or_false]
 have z8: ∀b,fM (ν id)=some b→b∉hs:=λb hb eZ=>h.none b eZ id _ hq trivial hb
 refine⟨(Tr.gone h.mem id).mem,(Tr.gone h.ME id).mem,h.cc,λi hi=> ?_,λi hi=> ?_,λq nS=> ?_,?_,λi hi e' l'=> ?_,λi hi=> ?_,λi=> ?_,h.uov,h.ufv,?_,λb hb=> ?_,λb hb=> ?_,λb hb i e' hi hm=> ?_,λb hb Y3=> ?_,λi hi nc=> ?_⟩
 ·rw[az _ _ (λe=>hi ((ly i).2 (.inr e)))];exact h.ext i (λh'=>hi ((ly i).2 (.inl h')))
 ·rw[az _ _ (λe=>hi ((ly i).2 (.inr e)))];exact h.VP i (λh'=>hi ((ly i).2 (.inl h')))
 ·rcases ba.1 nS with nS|nS
  ·obtain⟨h1,h2,h3⟩:=h.Th q nS
   have jB:q.1≠id:=λe=>vq (e▸eS nS)
   exact⟨by rw[az _ _ jB];exact h1,by rw[az _ _ jB];exact h2,h3⟩
  ·rw[bV]at nS;subst nS
   exact⟨ax _ _ _,ax _ _ _,.inr ⟨e,l,rfl,h0⟩⟩
 ·simp only[keys,cZ,bW,je]
  refine pY.2 ⟨h.ion,by simp,λx hx y hy=> ?_⟩
  rw[bV]at hy;subst hy
  intro e;exact vq (e▸hx)
 ·by_cases bX:i=id
  ·subst bX;rw[ax];intro h';cases h'
  ·rw[az _ _ bX];exact h.ks i hi e' l'
 ·obtain⟨h1,h2⟩:=h.ksn i hi
  exact⟨λh'=>((ly i).1 h').elim h1 (λe=>Ve (e▸hi)),h2⟩
 ·by_cases bX:i=id
  ·subst bX;left;rw[ax,ax]
  ·rw[az _ _ bX,az _ _ bX];exact h.fz i
 ·refine pY.2 ⟨h.nd,?_,λx hx y hy=> ?_⟩
  ·cases fM (ν id)<;>simp
  ·rw[fh]at hy
   intro Y4;subst Y4
   exact z8 x hy hx
 ·rcases ba.1 hb with hb|hb
  ·exact h.hM b hb
  ·rw[fh]at hb
   exact(h.mem.la id _ bf).yf trivial hb
 ·rcases ba.1 hb with hb|hb
  ·exact h.MF b hb
  ·rw[fh]at hb
   exact h.mem.new id _ b bf trivial hb
 ·by_cases bX:i=id
  ·subst bX;rw[ax]at hi;cases hi;simp[bh.mut]at hm
  ·rw[az _ _ bX]at hi
   rcases ba.1 hb with hb|hb
   ·exact h.none b hb i e' hi hm
   ·rw[fh]at hb
    intro eZ
    exact h.ME.zW i id e' _ b bX hi hm hq trivial eZ hb
 ·rcases ba.1 hb with hb|hb
  ·obtain⟨q,hq1,YZ⟩:=h.iob b hb Y3
   exact⟨q,cW _ hq1,YZ⟩
  ·rw[fh]at hb
   exact⟨(id,.lo e),by simp,hb⟩
 ·have jB:i≠id:=λe=>nc ((ly i).2 (.inr e))
  rw[az _ _ jB]
  exact h.same i hi (λh'=>nc ((ly i).2 (.inl h')))
end VM
end
section
namespace VM
open Go
variable{P:Program}{E:Env}{o:Oper}{a:Act}{w:World}{M:Nat→Prop}{ν:Nat→Value}{σ:St}{c:Ctx}{α:Type}{r:α}{next:Act→World→Prop}{Q:Exit→Act→World→Prop}
theorem sY.Zz{H:Nat→Option bh}{id:Nat}{e e':bh}(bf:H id=some e)(hl:e.lq e'):sY H ν (bY H id (some e')) ν:=
 ⟨λi e1 hi=>by
  by_cases bX:i=id
  ·subst bX;rw[bf]at hi;cases hi;exact⟨e',ax _ _ _,hl⟩
  ·exact⟨e1,by rw[az _ _ bX];exact hi,.refl e1⟩,λ_ _=>rfl⟩
theorem bh.kO(e:bh):e.lq .gone:=by cases e<;>simp[bh.lq]
theorem VR.alP{H H':Nat→Option bh}{ν':Nat→Value}{a:Ty}{x:a.den}{v:Value}(h:VR w M H ν (Cl a x) v):VR w M H' ν' (Cl a x) v:=by
 unfold Cl at h ⊢
 split at h
 ·simp only[VR]at h ⊢;exact h
 ·simp only[VR]at h ⊢;exact h
theorem jt.free{H H':Nat→Option bh}{ν':Nat→Value}: ∀{τ:Ty} {x:τ.den} {vs:List Value},jt w M H ν (pP τ x) vs→jt w M H' ν' (pP τ x) vs
 | .pair a b,x,v::vs,h=>by
  simp only[pP,jt]at h ⊢
  exact⟨VR.alP h.1,jt.free h.2⟩
 | .pair a b,x,[],h=>by simp[pP,jt]at h
 | .int _,_,[],_| .bool,_,[],_| .str,_,[],_| .slice _,_,[],_| .unit,_,[],_| .arr _ _,_,[],_=>by simp[pP,jt]
 | .int _,_,_::_,h| .bool,_,_::_,h| .str,_,_::_,h| .slice _,_,_::_,h| .unit,_,_::_,h| .arr _ _,_,_::_,h=>by simp[pP,jt]at h
theorem Cx{H0 H1 Hq:Nat→Option bh}{M1:Nat→Prop}{uo uf:jb}{io:List (Nat×AM)}{hs:List Nat}(h:jK c w M ν H0 H1 Hq M1 uo uf io hs){m:AM}{x:bD}{v:Value}(hv:VR w M1 H1 ν x v)
  {k:m.den→(Nat→Option bh)→List Nat→jb→jb→List (Nat×AM)→Option α} (hk:nZ m x H1 k=some r):
  ∃y H2 rd Lv Lw G7 Vf M2,k y H2 rd Lv Lw G7=some r∧jK c w M ν H0 H2 Vf M2 (Lv++uo) (Lw++uf) (io++G7) (hs++da m v)∧fa w M1 w M2∧sY H1 ν H2 ν∧A1 w M2 m y v∧
   G7.map (λq=>ν q.1)=(if m.iL then [v]else [])∧G7.map (·.2)=ni [m]:=by
 unfold nZ at hk
 split at hk
 ·
  rename_i τ k
  obtain⟨y,rd,ups,hk,hy⟩:=DY h.mem hv hk
  rcases hy with⟨rfl,hV⟩|⟨id,e,l,rfl,bf,hV⟩
  ·exact⟨y,H1,rd,[],[],[],Hq,M1,hk,by simpa [da]using h,.refl w M1,.refl H1 ν,hV,rfl,rfl⟩
  ·obtain⟨M2,hA,hK,JZ⟩:=h.freeze bf
   exact⟨y,_,rd,[],_,[],Hq,M2,hk,by simpa [da]using hA,hK,.Zz bf ⟨rfl,rfl⟩,hV M2 JZ,rfl,rfl⟩
 ·
  rename_i e k
  split at hk
  ·obtain⟨ad,hv⟩:=VR.emp.1 hv
   subst hv
   have hb:fM (.slice ad 0 0)=none:=by cases ad<;>simp[fM]
   exact⟨[],H1,[],[],[],[],Hq,M1,hk,by simpa [da,hb]using h,.refl w M1,.refl H1 ν,by simp only[A1,ER];exact .inl ⟨trivial,ad,rfl⟩,rfl,rfl⟩
  ·rename_i id
   split at hk
   ·rename_i e' l bf
    obtain⟨e1,hk⟩:=bC hk
    cases e1
    simp only[VR]at hv
    obtain⟨_,rfl⟩:=hv
    refine⟨_,_,_,_,_,_,_,M1,hk,by simpa [da]using h.hand bf,.refl w M1,.Zz bf (bh.kO _),?_,rfl,rfl⟩
    have:=h.mem.la id _ bf
    exact this
   ·cases hk
  ·cases hk
 ·
  rename_i τ k
  split at hk
  ·rename_i id
   split at hk
   ·rename_i υ z bf
    obtain⟨e1,hk⟩:=bC hk
    subst e1
    simp only[VR]at hv
    obtain⟨e,he,nR⟩:=hv
    rw[bf]at he;cases he
    simp only[AR]at nR
    obtain⟨_,b,hb,hv⟩:=nR
    have VQ:v=ν id:=by rw[hv,hb];rfl
    subst VQ
    refine⟨_,_,_,_,_,_,_,M1,hk,by simpa [da]using h.ahg bf,.refl w M1,.Zz bf (bh.kO _),?_,rfl,rfl⟩
    have:=h.mem.la id _ bf
    exact this
   ·cases hk
  ·cases hk
 ·
  rename_i f τ k
  split at hk
  ·rename_i f' cs
   obtain⟨hf,hk1⟩:=cB hk
   clear hk
   have hf:=fW hf
   subst hf
   have hk:=hk1
   clear hk1
   simp only[VR]at hv
   obtain⟨us,rfl,Zp⟩:=hv
   obtain⟨y,rd,ups,hk,hy⟩:=E5 h.mem Zp hk
   split at hk
   ·exact⟨y,H1,rd,[],[],[],Hq,M1,hk,by simpa [da]using h,.refl w M1,.refl H1 ν,by simp only[A1,VR];exact⟨us,rfl,hy rfl⟩,rfl,rfl⟩
   ·cases hk
  ·cases hk
 ·cases hk
 ·
  rename_i τ k
  split at hk
  ·rename_i υ z
   obtain⟨e1,hk⟩:=bC hk
   subst e1
   exact⟨_,H1,_,[],[],[],Hq,M1,hk,by simpa [da]using h,.refl w M1,.refl H1 ν,by simp only[A1,VR]at hv ⊢;exact hv,rfl,rfl⟩
  ·cases hk
 ·
  rename_i e k
  split at hk
  ·rename_i id
   split at hk
   ·rename_i e' l bf
    obtain⟨e1,hk⟩:=bC hk
    cases e1
    simp only[VR]at hv
    obtain⟨_,rfl⟩:=hv
    refine⟨_,_,_,_,_,_,_,M1,hk,by simpa [da]using h.afS bf,.refl w M1,.Zz bf (bh.kO _),?_,rfl,rfl⟩
    have:=h.mem.la id _ bf
    exact this
   ·cases hk
  ·cases hk
theorem Cy{H0:Nat→Option bh}: ∀{ms:List AM} {p3:List bD} {vs:List Value} {H1 Hq:Nat→Option bh} {M1:Nat→Prop} {rd:List Nat} {uo uf:jb} {io:List (Nat×AM)} {hs:List Nat} {K:HP ms→List Nat→jb→jb→List (Nat×AM)→Option α},
  jK c w M ν H0 H1 Hq M1 uo uf io hs→jt w M1 H1 ν p3 vs→tB ms p3 H1 rd uo uf io K=some r→
  ∃x Bn Lv Lw G7 H2 Vf M2,K x Bn Lv Lw G7=some r∧jK c w M ν H0 H2 Vf M2 Lv Lw G7 (hs++dO ms vs)∧fa w M1 w M2∧jJ w M2 ms x vs∧
   G7.map (λq=>ν q.1)=io.map (λq=>ν q.1)++fp ms vs∧G7.map (·.2)=io.map (·.2)++ni ms
 |[],[],[],H1,Hq,M1,rd,uo,uf,io,hs,K,h,_,hk=>
  ⟨(),rd,uo,uf,io,H1,Hq,M1,hk,by simpa [dO]using h,.refl w M1,rfl,by simp[fp],by simp[ni]⟩
 |[m],[x],[v],H1,Hq,M1,rd,uo,uf,io,hs,K,h,hv,hk=>by
  simp only[jt,eT]at hv
  obtain⟨y,H2,rd1,uo1,uf1,io1,Vf,M2,hk,hA,hK,hG,hy,ZA,Vg⟩:=Cx h hv (hk:nZ m x H1 _=some r)
  refine⟨y,_,_,_,_,H2,Vf,M2,hk,by simpa [dO]using hA,hK,⟨v,[],rfl,hy,rfl⟩,?_,?_⟩
  ·rw[cZ,ZA];cases vq:m.iL<;>simp[fp,vq]
  ·rw[cZ,Vg]
 |m::n::ms,x::xs,v::vs,H1,Hq,M1,rd,uo,uf,io,hs,K,h,hv,hk=>by
  simp only[jt]at hv
  obtain⟨y,H2,rd1,uo1,uf1,io1,Vf,M2,hk,hA,hK,hG,hy,ZA,Vg⟩:=Cx h hv.1 (hk:nZ m x H1 _=some r)
  obtain⟨ys,Bn,Lv,Lw,G7,H3,Hq3,M3,hk,hA',hK',hys,hi3,hi4⟩:=Cy (ms:=n::ms) hA (jt.cc hK hG hv.2) hk
  refine⟨(y,ys),_,_,_,_,H3,Hq3,M3,hk,by simpa [dO,bu]using hA',hK.trans hK',⟨v,vs,rfl,?_,hys⟩,?_,?_⟩
  ·refine A1.wH hK' (λb hb=>⟨rfl,hA'.hM b ?_⟩) hy
   exact cW _ (dz _ hb)
  ·rw[hi3,cZ,ZA,bu]
   congr 1
   cases vq:m.iL<;>simp[fp,vq]
  ·rw[hi4,cZ,Vg,bu]
   congr 1
   cases m<;>simp[ni]
 |[],_::_,_,_,_,_,_,_,_,_,_,_,_,_,hk=>by simp[tB]at hk
 |[_],[],_,_,_,_,_,_,_,_,_,_,_,_,hk=>by simp[tB]at hk
 |[_],_::_::_,_,_,_,_,_,_,_,_,_,_,_,_,hk=>by simp[tB]at hk
 |_::_::_,[],_,_,_,_,_,_,_,_,_,_,_,_,hk=>by simp[tB]at hk
 |_,_::_,[],_,_,_,_,_,_,_,_,_,_,hv,_=>by simp[jt]at hv
 |[],[],_::_,_,_,_,_,_,_,_,_,_,_,hv,_=>by simp[jt]at hv
 |[_],[_],_::_::_,_,_,_,_,_,_,_,_,_,_,hv,_=>by simp[jt]at hv
end VM
end
