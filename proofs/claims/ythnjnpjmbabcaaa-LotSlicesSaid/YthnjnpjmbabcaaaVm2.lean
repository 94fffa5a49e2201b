/- A part of the proof of LotSlices of layer 23: a machine that reads a function of the program as an equation between values. -/
import Derived.Test.YthnjnpjmbabcaaaVm1
import Derived.Great.BuildSlice
import Derived.Laws.Tables
set_option linter.all false
open List renaming length→ℓ, getD→γ
section
namespace VM
open Go
theorem ei{α:Type}{r:α}: ∀{τ:Ty} {x:τ.den} {n:Nat} {m:(υ:Ty)→υ.den→(υ.den→Option α)→Option α} {k:τ.den→Option α},cB τ x n m k=some r→
  ∃υ y o k',rq τ x n υ y o∧m υ y k'=some r∧ ∀z r',k' z=some r'→ ∃x',k x'=some r'∧rq τ x' n υ z o∧
   ∀(w:World) (M:Nat→Prop) cs cs',Rd w M τ cs x→Rd w M υ cs' z→Rd w M τ (bG cs o cs') x'
 | .pair a b,x,0,m,k,h=>by
  refine⟨a,x.1,0,_,.here x,h,λz r' hz=>⟨(z,x.2),hz,.here (a:=a) (b:=b) (z,x.2),λw M cs cs' hr jV=> ?_⟩⟩
  simp only[Rd]at hr ⊢
  obtain⟨c1,c2,rfl,h1,h2⟩:=hr
  refine⟨cs',c2,?_,jV,h2⟩
  rw[pD (by rw[jV.length,h1.length];omega)]
  congr 1
  unfold bG
  rw[cF,jV.length,←h1.length];simp
 | .pair a b,x,n+1,m,k,h=>by
  obtain⟨υ,y,o,k',hf,hm,hk⟩:=ei (τ:=b) (x:=x.2) (n:=n) (m:=m) (k:=λz=>k (x.1,z)) h
  refine⟨υ,y,_,k',.there x hf,hm,λz r' hz=> ?_⟩
  obtain⟨x',jJ,n9,eJ⟩:=hk z r' hz
  refine⟨(x.1,x'),jJ,.there (a:=a) (b:=b) (x.1,x') n9,λw M cs cs' hr jV=> ?_⟩
  simp only[Rd]at hr ⊢
  obtain⟨c1,c2,rfl,h1,h2⟩:=hr
  refine⟨c1,_,?_,h1,eJ w M c2 cs' h2 jV⟩
  rw[←h1.length,nL]
 | .int _,_,_,_,_,h| .bool,_,_,_,_,h| .str,_,_,_,_,h| .slice _,_,_,_,_,h| .unit,_,_,_,_,h| .arr _ _,_,_,_,_,h=>by simp[cB]at h
def gT(w:World)(M:Nat→Prop)(e:Ty)(cs:List Value)(l:List e.den):Prop:=
 ∀i (h:i<l.length),Rd w M e ((cs.drop (i*e.size)).take e.size) l[i]
theorem bH{i n s:Nat}(h:i<n):i*s+s≤n*s:=by
 have:(i+1)*s≤n*s:=dD _ h
 rw[bO,ea]at this;exact this
theorem gT.set{w:World}{M:Nat→Prop}{e:Ty}{cs:List Value}{l:List e.den}(h:gT w M e cs l)(hl:l.length*e.size≤cs.length){i:Nat}(hi:i<l.length){cs':List Value}{y:e.den}(hr:Rd w M e cs' y):
  gT w M e (bG cs (i*e.size) cs') (l.set i y):=by
 have hlen:=hr.length
 intro j hj
 rw[aY]at hj
 have h1:=bH (s:=e.size) hi
 have h2:=bH (s:=e.size) hj
 by_cases gH:j=i
 ·subst gH
  have:=JR (a:=cs) (o:=j*e.size) (new:=cs') ω
  rw[hlen]at this
  rw[this,List.getElem_set_self];exact hr
 ·rw[sN (by
   rcases Nat.lt_or_gt_of_ne gH with cy|cy
   ·have:=bH (s:=e.size) cy;left;omega
   ·have:=bH (s:=e.size) cy;right;omega) ω,List.getElem_set_ne (cf gH)]
  exact h j hj
theorem gT.append{w:World}{M:Nat→Prop}{e:Ty}{c1 c2:List Value}{l1 l2:List e.den}(h1:gT w M e c1 l1)(hl:c1.length=l1.length*e.size)(h2:gT w M e c2 l2):gT w M e (c1++c2) (l1++l2):=by
 intro i hi
 by_cases cy:i<l1.length
 ·have:=bH (s:=e.size) cy
  rw[oS ω,oR (by rw[cT];omega),oV cy]
  exact h1 i cy
 ·rw[aQ]at hi
  obtain⟨k,rfl⟩: ∃k,i=l1.length+k:=⟨i-l1.length,ω⟩
  rw[bO,←hl,←dE,gp rfl,s7 ω]
  simp only[oX]
  exact h2 k ω
theorem gT.take{w:World}{M:Nat→Prop}{e:Ty}{cs:List Value}{l:List e.den}(h:gT w M e cs l){n:Nat}(hn:l.length*e.size≤n):gT w M e (cs.take n) l:=by
 intro i hi
 have:=bH (s:=e.size) hi
 rw[iJ,iK,c5 ω]
 exact h i hi
theorem gT.more{w:World}{M:Nat→Prop}{e:Ty}{cs cs':List Value}{l:List e.den}(h:gT w M e cs l)(hl:l.length*e.size≤cs.length):gT w M e (cs++cs') l:=by
 intro i hi
 have:=bH (s:=e.size) hi
 rw[oS ω,oR (by rw[cT];omega)]
 exact h i hi
theorem gT.aK{w w':World}{M M':Nat→Prop}(k:bJ w M w' M'){e:Ty}{cs:List Value}{l:List e.den}(h:gT w M e cs l):gT w' M' e cs l:=λi hi=>(h i hi).aK k
theorem Rd.arr{w:World}{M:Nat→Prop}{n:Nat}{e:Ty}{cs:List Value}{x:(Ty.arr n e).den}:Rd w M (.arr n e) cs x↔ℓ x=n∧cs.length=n*e.size∧gT w M e cs x:=by
 constructor
 ·intro h
  have hl:=h.length
  have h':=h
  simp only[Rd]at h'
  refine⟨h'.1,hl,λi hi=> ?_⟩
  have:=h.idx (i:=i) ω
  rw[eF x i e.zero hi]at this
  exact this
 ·rintro⟨hn,hl,hr⟩
  simp only[Rd]
  refine⟨hn,(List.range n).map λi=>(cs.drop (i*e.size)).take e.size,by simp,?_,λi hi kk=> ?_⟩
  ·
   have key: ∀m (l:List Value),l.length=m*e.size→l=((List.range m).map λi=>(l.drop (i*e.size)).take e.size).flatten:=by
    intro m
    induction m with
    |zero=>intro l hl;simpa using hl
    |succ m ih=>
     intro l hl
     have h1:(l.take (m*e.size)).length=m*e.size:=by rw[aT,hl,bO];omega
     have h2:=ih (l.take (m*e.size)) h1
     rw[tv,cU,List.flatten_append]
     have h3:((List.range m).map λi=>(l.drop (i*e.size)).take e.size)=(List.range m).map λi=>((l.take (m*e.size)).drop (i*e.size)).take e.size:=by
      apply fc
      intro i hi
      have:=bH (s:=e.size) (pg.1 hi)
      rw[iJ,iK,c5 ω]
     rw[h3,←h2]
     simp only[bz,fJ,o8,List.flatten_nil,cV]
     rw[eA (l:=l.drop (m*e.size)) (by rw[cT,hl,bO];omega),fE]
   exact key n cs hl
  ·simp only[tk,o7]
   exact hr i hi
theorem gI{α:Type}{r:α}{υ:Ty}{y:υ.den}: ∀{p:List Step} {τ:Ty} {x:τ.den} {k:τ.den→Option α},mD υ y p τ x k=some r→
  ∃z,k z=some r∧vE p τ=υ∧(oa p τ→aO p τ+υ.size≤τ.size)∧ ∀(w:World) (M:Nat→Prop) cs cs',oa p τ→Rd w M τ cs x→Rd w M υ cs' y→Rd w M τ (bG cs (aO p τ) cs') z
 |[],τ,x,k,h=>by
  obtain⟨e,h⟩:=aw (h:aP υ τ y k=some r)
  subst e
  refine⟨y,h,rfl,λ_=>by simp[aO],λw M cs cs' _ hr jV=> ?_⟩
  unfold bG
  rw[show aO [] υ=0 from rfl,cF,jV.length,←hr.length]
  simpa using jV
 | .dw n::p,τ,x,k,h=>by
  obtain⟨υ',y',o,k',hf,hm,hk⟩:=ei (h:cB τ x n _ k=some r)
  obtain⟨z',Aj,ht,vu,eJ⟩:=gI (p:=p) (τ:=υ') (x:=y') (k:=k') hm
  obtain⟨x',jJ,n9,Cj⟩:=hk z' r Aj
  obtain⟨h1,h2⟩:=hf.eq
  subst h1 h2
  refine⟨x',jJ,ht,λhi=>by have:=hf.bound;have:=vu hi;simp only[aO];omega,λw M cs cs' hi hr jV=> ?_⟩
  have vu:=vu hi
  have h3:=eJ w M _ cs' hi (hf.rd hr) jV
  have h4:=Cj w M cs _ hr h3
  have hb:=hf.bound
  have DF:=hr.length
  have SW:=jV.length
  have Gz:=h3.length
  have gu:aO p (jr τ n)+cs'.length≤((cs.drop (cH τ n)).take (jr τ n).size).length:=by
   rw[aT,cT];omega
  have:bG cs (cH τ n) (bG ((cs.drop (cH τ n)).take (jr τ n).size) (aO p (jr τ n)) cs')=bG cs (cH τ n+aO p (jr τ n)) cs':=by
   have e1:cs=cs.take (cH τ n)++(((cs.drop (cH τ n)).take (jr τ n).size)++cs.drop (cH τ n+(jr τ n).size)):=by
    rw[←dE,fE,fE]
   have cy:(cs.take (cH τ n)).length=cH τ n:=by rw[aT];omega
   conv=>rhs;rw[e1]
   rw[show cH τ n+aO p (jr τ n)=(cs.take (cH τ n)).length+aO p (jr τ n)from by rw[cy],nL,pD gu]
   generalize bG ((cs.drop (cH τ n)).take (jr τ n).size) (aO p (jr τ n)) cs'=m at Gz ⊢
   unfold bG
   rw[Gz,bq]
  simp only[aO]
  rw[←this]
  exact h4
 | .idx i::p,τ,x,k,h=>by
  cases τ with
  |arr n e=>
   obtain⟨z',Aj,ht,vu,eJ⟩:=gI (p:=p) (τ:=e) (x:=γ x i e.zero) (k:=λz=>k (List.set x i z)) h
   refine⟨_,Aj,ht,λhi=>by
    obtain⟨⟨n',e',he,gu⟩,kk⟩:=hi
    cases he
    have:=vu kk
    have hm:=bH (s:=e.size) gu
    simp only[aO,JP,Ty.size];omega,λw M cs cs' hi hr jV=> ?_⟩
   obtain⟨⟨n',e',he,gu⟩,kk⟩:=hi
   cases he
   have h3:=eJ w M _ cs' kk (hr.idx gu) jV
   obtain⟨hn,DF,D0⟩:=Rd.arr.1 hr
   have hm:=bH (s:=e.size) gu
   have h4:=D0.set (by rw[DF,hn];exact aB _) (i:=i) ω h3
   have SW:=jV.length
   have Gz:=h3.length
   have SX:((cs.drop (i*e.size)).take e.size).length=e.size:=by rw[aT,cT];omega
   have vu:=vu kk
   have QM:aO p e+cs'.length≤((cs.drop (i*e.size)).take e.size).length:=ω
   have:bG cs (i*e.size) (bG ((cs.drop (i*e.size)).take e.size) (aO p e) cs')=bG cs (i*e.size+aO p e) cs':=by
    have e1:cs=cs.take (i*e.size)++(((cs.drop (i*e.size)).take e.size)++cs.drop (i*e.size+e.size)):=by
     rw[←dE,fE,fE]
    have cy:(cs.take (i*e.size)).length=i*e.size:=by rw[aT];omega
    conv=>rhs;rw[e1]
    rw[show i*e.size+aO p e=(cs.take (i*e.size)).length+aO p e from by rw[cy],nL,pD QM]
    generalize bG ((cs.drop (i*e.size)).take e.size) (aO p e) cs'=m at Gz ⊢
    unfold bG
    rw[Gz,bq]
   simp only[aO,JP]
   rw[←this]
   refine Rd.arr.2 ⟨by rw[aY];exact hn,?_,h4⟩
   rw[bD (by rw[Gz];omega)];exact DF
  |_=>simp[mD,sJ]at h
theorem Rd.M6{w:World}{M:Nat→Prop}{τ υ:Ty}{cs:List Value}{x:τ.den}(e:τ=υ)(h:Rd w M τ cs x):Rd w M υ cs (e▸x):=by subst e;exact h
theorem tM{α:Type}{r:α}{e:Ty}{l:List e.den}: ∀{τ:Ty} {n:Nat} {z:τ.den} {k:τ.den→Option α},cB τ z n (fun υ' _ k'=>aP (.slice e) υ' l k') k=some r→
  ∃x,k x=some r∧cB τ z n (fun υ' _ k'=>aP (.slice e) υ' l k') some=some x∧ll τ x n (fun υ y=>aP υ (.slice e) y some)=some l∧ ∀l':List e.den,∃z0,
   (∀(β:Type) (k':τ.den→Option β),cB τ x n (fun υ' _ k'=>aP (.slice e) υ' l' k') k'=k' z0)∧ ∀(β:Type) (k':τ.den→Option β),cB τ z n (fun υ' _ k'=>aP (.slice e) υ' l' k') k'=k' z0
 | .pair a b,0,z,k,h=>by
  have h1:aP (.slice e) a l (λw=>k (w,z.2))=some r:=h
  obtain⟨e1,h2⟩:=aw h1
  clear h1 h
  subst e1
  exact⟨_,h2,by simp[cB,aP],by simp[ll,aP],λl'=>⟨(l',z.2),λβ k'=>by simp[cB,aP],λβ k'=>by simp[cB,aP]⟩⟩
 | .pair a b,n+1,z,k,h=>by
  obtain⟨x,h1,h0,h2,h3⟩:=tM (τ:=b) (n:=n) (z:=z.2) (k:=λw=>k (z.1,w)) h
  refine⟨(z.1,x),h1,?_,h2,λl'=> ?_⟩
  ·obtain⟨z0,h4,h5⟩:=h3 l
   have h6:=h5 _ some
   rw[h0]at h6
   cases h6
   exact h5 _ λw=>some (z.1,w)
  obtain⟨z0,h4,h5⟩:=h3 l'
  exact⟨(z.1,z0),λβ k'=>h4 β λw=>k' (z.1,w),λβ k'=>h5 β λw=>k' (z.1,w)⟩
 | .int _,_,_,_,h| .bool,_,_,_,h| .str,_,_,_,h| .slice _,_,_,_,h| .unit,_,_,_,h| .arr _ _,_,_,_,h=>by simp[cB]at h
end VM
end
section
namespace VM
open Go
variable{P:Program}{E:Env}{o:Oper}{a:Act}{w:World}{M:Nat→Prop}{ν:Nat→Value}{σ:St}{c:Ctx}{α:Type}{r:α}{next:Act→World→Prop}{Q:Exit→Act→World→Prop}
theorem aq{v:Value}{w':World}(h:(execOp a.eval o).run P w= .ok (.value v) w')(hn:next (a.put o.dst v) w'):o.wp P a w next Q:=by
 unfold Oper.wp Oper.upon;rw[h];exact hn
theorem fp{w':World}(h:(execOp a.eval o).run P w= .ok .skip w')(hn:next (a.put o.dst undef) w'):o.wp P a w next Q:=by
 unfold Oper.wp Oper.upon;rw[h];exact hn
def cr(c:Ctx)(σ:St)(a:Act)(o:Oper)(w:World)(M:Nat→Prop)(ν:Nat→Value)(K:cN α)(r:α)(next:Act→World→Prop):Prop:=
 ∀v rd ups v' w' M' ν',K v rd ups=some r→Tr c σ.H w M ν (aN σ.H ups) w' M' ν'→VR w' M' (aN σ.H ups) ν' v v'→next (a.put o.dst v') w'
theorem Core.ev(h:Core c σ a.tmps w M ν)(x:Operand):VR w M σ.H ν (σ.ρ x) (a.eval x):=h.op a.defers x
theorem fO{x:ax}{k:IntKind→Int→Option α}(h:mE x k=some r): ∃(i:IntKind) (n:Int),x= .val (.int i) n∧k i n=some r:=by
 unfold mE at h
 split at h
 ·exact⟨_,_,rfl,h⟩
 ·cases h
theorem VR.int{H:Nat→Option ar}{k:IntKind}{n:Int}{v:Value}(h:VR w M H ν (.val (.int k) n) v):v= .int k n:=by
 simp only[VR,V,Ty.isAgg,dq,c7,Rd,cc,cn]at h;exact h
theorem VR.bool{H:Nat→Option ar}{b:Bool}{v:Value}(h:VR w M H ν (.val .bool b) v):v= .bool b:=by
 simp only[VR,V,Ty.isAgg,dq,c7,Rd,cc,cn]at h;exact h
theorem VR.str{H:Nat→Option ar}{b:ByteArray}{v:Value}(h:VR w M H ν (.val .str b) v):v= .string b:=by
 simp only[VR,V,Ty.isAgg,dq,c7,Rd,cc,cn]at h;exact h
theorem VR.mkInt{H:Nat→Option ar}(k:IntKind)(n:Int):VR w M H ν (.val (.int k) n) (.int k n):=by simp[VR,V,Ty.isAgg,Rd]
theorem VR.lA{H:Nat→Option ar}(b:Bool):VR w M H ν (.val .bool b) (.bool b):=by simp[VR,V,Ty.isAgg,Rd]
theorem VR.mkStr{H:Nat→Option ar}(b:ByteArray):VR w M H ν (.val .str b) (.string b):=by simp[VR,V,Ty.isAgg,Rd]
theorem Bj(hc:Core c σ a.tmps w M ν){x:Operand}(ho:o.op= .move x∨o.op= .assign x){K:cN α}(h:K (σ.ρ x) [] []=some r)(hn:cr c σ a o w M ν K r next):o.wp P a w next Q:=by
 have hr:(execOp a.eval o).run P w= .ok (.value (a.eval x)) w:=by
  rcases ho with ho|ho
  ·simp[execOp,ho]
  ·simp[execOp,ho]
 exact aq hr (hn _ _ _ _ _ _ _ h (.refl hc.mem) (hc.ev x))
theorem G1(hc:Core c σ a.tmps w M ν){x y z:Operand}(ho:o.op= .pick x y z){K:cN α}{t:Bool}(hx:σ.ρ x= .val .bool t)(h:cond t (K (σ.ρ y) [] []) (K (σ.ρ z) [] [])=some r)
  (hn:cr c σ a o w M ν K r next):o.wp P a w next Q:=by
 have hv:=hc.ev x
 rw[hx]at hv
 refine aq (yK ho hv.bool) ?_
 cases t
 ·exact hn _ _ _ _ _ _ _ h (.refl hc.mem) (hc.ev z)
 ·exact hn _ _ _ _ _ _ _ h (.refl hc.mem) (hc.ev y)
theorem ej{H:Nat→Option ar}{id:Nat}{e:ar}{K:Option α}(h:il H id e K=some r):H id=none∧K=some r:=by
 unfold il at h
 split at h
 ·rename_i h';exact⟨h',h⟩
 ·cases h
theorem VR.IH{H:Nat→Option ar}{id:Nat}{τ:Ty}{x:τ.den}{b:Nat}(hid:H id=some (.obj τ x))(hν:ν id= .pointer (some ⟨b,0,none⟩)):VR w M H ν (.dg id []) (.pointer (some ⟨b,0,none⟩)):=by
 simp only[VR]
 exact⟨_,hid,trivial,b,hν,rfl⟩
theorem VR.D1{H:Nat→Option ar}{id:Nat}{τ:Ty}{x:τ.den}{q:List Step}{j b:Nat}(hid:H id=some (.cQ τ x q j))(hν:ν id= .pointer (some ⟨b,0,none⟩)):VR w M H ν (.dg id []) (.pointer (some ⟨b,0,none⟩)):=by
 simp only[VR]
 exact⟨_,hid,trivial,b,hν,rfl⟩
theorem ct(τ:Ty):(aC τ τ.aL).cells.toList=τ.aL:=vD (Rd.zero default (λ_=>False) τ)
theorem yL: ∀{τ:Ty} {n:Nat} {a:Ty},n4 τ n=some a→ ∃l m,τ.aL=l++(a.aL++m)∧l.length=cH τ n:=by
 intro τ
 induction τ with
 |pair a b _ DZ=>
  intro n c h
  cases n with
  |zero=>cases h;exact⟨[],b.aL,rfl,rfl⟩
  |succ n=>
   obtain⟨l,m,h1,h2⟩:=DZ (n:=n) (a:=c) h
   refine⟨a.aL++l,m,by simp only[Ty.aL];rw[h1,bq],?_⟩
   rw[aQ,h2,(Rd.zero default (λ_=>False) a).length];rfl
 |_=>intro n c h;simp[n4]at h
theorem pI: ∀{p:List Step} {τ υ:Ty},cj p τ υ=true→ ∃l m,τ.aL=l++(υ.aL++m)∧l.length=aO p τ
 |[],τ,υ,h=>by
  have h:=bs h
  subst h
  exact⟨[],[],by simp,rfl⟩
 | .dw n::p,τ,υ,h=>by
  unfold cj at h
  split at h
  ·rename_i a ha
   obtain⟨l,m,h1,h2⟩:=yL ha
   obtain⟨l',m',h3,h4⟩:=pI h
   obtain⟨_,_,hf⟩:=ef ha τ.zero
   have:=hf.eq.1
   subst this
   refine⟨l++l',m'++m,by rw[h1,h3];simp,?_⟩
   rw[aQ,h2,h4];rfl
  ·cases h
 | .idx _::_,_,_,h=>by simp[cj]at h
theorem qJ{p:List Step}{τ e:Ty}(h:cj p τ (.slice e)=true):τ.aL[aO p τ]? =some (.slice none 0 0):=by
 obtain⟨l,m,h1,h2⟩:=pI h
 rw[h1,ib ω,h2,Nat.sub_self];rfl
theorem aG{b:Bool}{K:Option α}(h:cond b K none=some r):b=true∧K=some r:=by
 cases b
 ·cases h
 ·exact⟨rfl,h⟩
theorem xd{τ:Ty}{q:List Step}{e:Ty}(h:MW E τ=some (q,e)):cj q τ (.slice e)=true:=by
 unfold MW at h
 split at h
 ·rename_i υ q' e' _ _
  cases hd:decide (υ=τ)<;>rw[hd]at h
  ·cases h
  ·simp only[ah]at h
   cases hp:cj q' τ (.slice e')<;>rw[hp]at h
   ·cases h
   ·cases h;exact hp
 ·cases h
theorem iV{τ:Ty}{id:Nat}{q:List Step}{e:Ty}(h:vC E τ id=some (q,e)):cj q τ (.slice e)=true:=by
 unfold vC at h
 split at h
 ·exact xd (aG h).2
 ·cases h
theorem tN{H:Nat→Option ar}{id:Nat}{τ:Ty}{x:τ.den}{q:List Step}{e:Ty}{K:cN α}(h:sq H id τ x q e K=some r):H id=none∧H (id+1)=none∧K (.dg id []) [id,id+1] [(id,some (.cQ τ x q (id+1))),(id+1,some (.own e []))]=some r:=by
 unfold sq at h
 obtain⟨h1,h⟩:=ej h
 obtain⟨h2,h⟩:=ej h
 exact⟨h1,h2,h⟩
theorem Cl{H:Nat→Option ar}{i j:Nat}{u v:Option ar}(h:i≠j):au (au H i u) j v=au (au H j v) i u:=by
 funext k
 by_cases hi:k=i
 ·subst hi;rw[ae _ _ h,aa,aa]
 ·by_cases hj:k=j
  ·subst hj;rw[aa,ae _ _ hi,aa]
  ·rw[ae _ _ hj,ae _ _ hi,ae _ _ hi,ae _ _ hj]
theorem oz{H:Nat→Option ar}{i:Nat}{u v:Option ar}:au (au H i u) i v=au H i v:=by
 funext k
 by_cases hi:k=i
 ·subst hi;rw[aa,aa]
 ·rw[ae _ _ hi,ae _ _ hi,ae _ _ hi]
theorem Tr.D2{H:Nat→Option ar}(h:Mem c H w M ν){id k:Nat}(hk:H k=none){τ:Ty}{x:τ.den}(hid:H id=some (.obj τ x)){b:Nat}{cs:Array Value}{t:TypeId}(hb:ν id= .pointer (some ⟨b,0,none⟩))(hg:w.heap[b]? =some (.cells cs t (0,0)))
  {q:List Step} {e:Ty} (hq:cj q τ (.slice e)=true) {ad:Option Addr} (hz:cs.toList[aO q τ]? =some (.slice ad 0 0)):
  Tr c H w M ν (aN H [(id,some (.cQ τ x q k)),(k,some (.own e []))]) w M (updν ν k (.slice ad 0 0)):=by
 have dT:k≠id:=λe=>by rw[e,hid]at hk;cases hk
 have h2:=Tr.nothing h hk e ad
 have SY:au H k (some (.own e [])) id=some (.obj τ x):=by rw[ae _ _ (cf dT)];exact hid
 have hν:updν ν k (.slice ad 0 0) id= .pointer (some ⟨b,0,none⟩):=by unfold updν;rw[ag (cf dT)];exact hb
 have hν1:updν ν k (.slice ad 0 0) k= .slice ad 0 0:=by simp[updν]
 have he:=h2.mem.dd id _ SY
 simp only[ER]at he
 obtain⟨b',cs',t',bA,JU,hM,eJ⟩:=he
 rw[hν]at bA;cases bA
 rw[hg]at JU;cases JU
 have h3:=Tr.M4 h2.mem SY trivial (e':= .cQ τ x q k) trivial rfl (λ_ _=>by simp) (by
   rw[hν];simp only[ER]
   exact⟨_,cs,t,cs.toList,.slice ad 0 0,rfl,hg,hM,eJ,(nc hz).symm,rfl,e,hq⟩)
  (fun τ' x' p' j' hl=>by
   cases hl
   refine⟨by rw[aa];simp,_,hν,?_⟩
   rw[hν1,cell_of hg,←cM];exact hz)
 rw[Cl (i:=k) (j:=id) dT]at h3
 exact h2.trans h3
theorem Tr.sq{H:Nat→Option ar}(h:Mem c H w M ν){id:Nat}(hid:H id=none)(gW:H (id+1)=none)(t:TypeId){τ:Ty}{cs:Array Value}{x:τ.den}(hr:Rd w M τ cs.toList x){q:List Step}{e:Ty}(hq:cj q τ (.slice e)=true){ad:Option Addr}
  (hz:cs.toList[aO q τ]? =some (.slice ad 0 0)):
  ∃M' ν',Tr c H w M ν (aN H [(id,some (.cQ τ x q (id+1))),(id+1,some (.own e []))]) (w.alloc (.cells cs t)) M' ν'∧ν' id= .pointer (some ⟨w.heap.size,0,none⟩):=by
 have h1:=Tr.var h hid t hr
 have h2:=Tr.D2 h1.mem (id:=id) (k:=id+1) (by rw[ae _ _ ω];exact gW) (aa _ _ _) (by simp[updν]) (pE w _) hq hz
 have e1:aN (au H id (some (.obj τ x))) [(id,some (.cQ τ x q (id+1))),(id+1,some (.own e []))]=aN H [(id,some (.cQ τ x q (id+1))),(id+1,some (.own e []))]:=by
  show au (au (au H id _) id _) (id+1) _=au (au H id _) (id+1) _
  rw[oz]
 rw[e1]at h2
 exact⟨_,_,h1.trans h2,by simp[updν]⟩
theorem D3(hE:EnvTy P E)(hc:Core c σ a.tmps w M ν){t:TypeId}(ho:o.op= .alloc t){K:cN α}{τ:Ty}(ht:E.ty t=some τ){id:Nat}
  (h:(match vC E τ id with
   |some (q,e)=>sq σ.H id τ τ.zero q e K
   |none=>il σ.H id (.obj τ τ.zero) (K (.dg id []) [id] [(id,some (.obj τ τ.zero))]))=some r) (hn:cr c σ a o w M ν K r next):o.wp P a w next Q:=by
 obtain⟨i,hi,hs,hz,_⟩:=(hE.ty t τ ht).base
 have hr:Rd w M τ (aC τ τ.aL).cells.toList τ.zero:=by rw[ct];exact Rd.zero w M τ
 split at h
 ·rename_i q e iU
  obtain⟨hid,gW,h⟩:=tN h
  obtain⟨M',ν',cI,hν⟩:=Tr.sq hc.mem hid gW t hr (iV iU) (by rw[ct];exact qJ (iV iU))
  refine aq (pG ho hi hz w) (hn _ _ _ _ _ M' ν' h cI ?_)
  exact VR.D1 (by show au _ (id+1) _ id=_;rw[ae _ _ ω,aa]) hν
 ·obtain⟨hid,h⟩:=ej h
  refine aq (pG ho hi hz w) (hn _ _ _ _ _ _ _ h (Tr.var hc.mem hid t hr) (VR.IH (aa _ _ _) (by simp[updν])))
theorem Bk(hE:EnvTy P E)(hc:Core c σ a.tmps w M ν){t:TypeId}{x:Operand}(ho:o.op= .box t x){K:cN α}{τ:Ty}{id:Nat}
  (h:fk true (σ.ρ x) σ.H τ (λy rd ups=>il σ.H id (.obj τ y) (K (.dg id []) (id::rd) (ups++[(id,some (.obj τ y))])))=some r) (hn:cr c σ a o w M ν K r next):o.wp P a w next Q:=by
 obtain⟨y,rd,ups,M',h,cI,hV,hz,_⟩:=eh (.refl _) hc.mem (hc.ev x) h
 obtain⟨hid,h⟩:=ej h
 have JV:aN σ.H ups id=none:=hz.none hid
 have nh:=cI.trans (Tr.var cI.mem JV t hV.cells)
 refine aq (tH ho w) (hn _ _ _ _ _ (λb=>M' b∨b=w.heap.size) (updν ν id (.pointer (some ⟨w.heap.size,0,none⟩))) h ?_ ?_)
 ·rw[bT];exact nh
 ·rw[bT];exact VR.IH (aa _ _ _) (by simp[updν])
theorem JW(hE:EnvTy P E)(hc:Core c σ a.tmps w M ν){t:TypeId}{x:Operand}(ho:o.op= .box t x){K:cN α}{τ:Ty}{id:Nat}
  (h:(match vC E τ id,σ.ρ x with
   |some ([.dw m],e),.w4 υ y n=>cond (Nat.beq m n) (aP υ τ y λy=>sq σ.H id τ y [.dw m] e K) (fk true (σ.ρ x) σ.H τ (λy rd ups=>il σ.H id (.obj τ y) (K (.dg id []) (id::rd) (ups++[(id,some (.obj τ y))]))))
   |_,_=>fk true (σ.ρ x) σ.H τ (λy rd ups=>il σ.H id (.obj τ y) (K (.dg id []) (id::rd) (ups++[(id,some (.obj τ y))]))))=some r) (hn:cr c σ a o w M ν K r next):o.wp P a w next Q:=by
 split at h
 ·rename_i m e υ y n iU hx
  cases hb:Nat.beq m n
  ·rw[hb]at h
   exact Bk hE hc ho h hn
  ·rw[hb]at h
   have sP:=bY hb
   subst sP
   simp only[ah]at h
   obtain⟨e1,h⟩:=aw h
   subst e1
   obtain⟨hid,gW,h⟩:=tN h
   have hv:=hc.ev x
   rw[hx]at hv
   simp only[VR]at hv
   obtain⟨hV,cs,ad,M7,hz⟩:=hv
   have jW:(a.eval x).cells.toList=cs.toList:=by rw[M7];rfl
   obtain⟨M',ν',cI,hν⟩:=Tr.sq hc.mem hid gW t hV.cells (iV iU) (ad:=ad) (by rw[jW];simpa [aO]using hz)
   refine aq (tH ho w) (hn _ _ _ _ _ M' ν' h cI ?_)
   exact VR.D1 (by show au _ (id+1) _ id=_;rw[ae _ _ ω,aa]) hν
 ·exact Bk hE hc ho h hn
theorem jK{i:Int}{n:Nat}(h:c9 i n=true):0≤i∧i<(n:Int):=by rw[DT]at h;simpa using h
theorem fv{b:Bool}{K:Option α}(h:cond b none K=some r):b=false∧K=some r:=by
 cases b
 ·exact⟨rfl,h⟩
 ·cases h
theorem rB(hm:Mem c σ.H w M ν){x:ax}{u:Value}(hv:VR w M σ.H ν x u){K:(υ:Ty)→υ.den→List Nat→Option α}(h:eI x σ.H K=some r):
  ∃υ y rd,K υ y rd=some r∧ ∃b off cs,u= .pointer (some ⟨b,off,none⟩)∧At w b off cs∧Rd w M υ cs y:=by
 unfold eI at h
 split at h
 ·simp only[VR]at hv
  obtain⟨b,off,rfl,_,_,cs,ha,hr⟩:=hv
  exact⟨_,_,_,h,b,off,cs,rfl,ha,hr⟩
 ·rename_i id p
  simp only[VR]at hv
  obtain⟨e,he,dR⟩:=hv
  have dZ:=hm.dd id e he
  rw[he]at h
  cases e with
  |obj τ x=>
   obtain⟨υ,y,o',hp,hK⟩:=ed h
   simp only[AR]at dR
   obtain⟨hi,b,hb,rfl⟩:=dR
   simp only[ER]at dZ
   obtain⟨b',cs,t,bA,hg,_,hr⟩:=dZ
   rw[hb]at bA;cases bA
   have:=hp.eq.2
   subst this
   exact⟨υ,y,_,hK,b,_,_,rfl,At.of_block hg _ _,hp.rd hi hr⟩
  |own e l=>
   simp only[AR]at dR
   obtain⟨i,q,rfl,sv,hi,b,n,cp,hb,rfl⟩:=dR
   obtain⟨υ,y,o',hp,hK⟩:=ed h
   simp only[ER]at dZ
   rcases dZ with⟨rfl,_⟩|⟨b',cs,t,cap,bA,hg,_,Cm,hl,sO,hs,hr⟩
   ·simp at sv
   ·rw[hb]at bA;cases bA
    have:=hp.eq.2
    subst this
    have h1:=hr i sv
    rw[←eF l i e.zero sv]at h1
    have h2:=hp.rd hi h1
    have h3:=hp.bound hi
    rw[iJ,dE,iK,c5 ω]at h2
    exact⟨υ,y,_,hK,b,_,_,rfl,At.of_block hg _ _,h2⟩
  |gr e l=>
   simp only[AR]at dR
   obtain⟨i,q,rfl,sv,hi,b,n,cp,hb,rfl⟩:=dR
   obtain⟨υ,y,o',hp,hK⟩:=ed h
   simp only[ER]at dZ
   have eJ:=dZ.1
   simp only[Rd,cc,cn]at eJ
   obtain⟨a0,cap,QN,_,hr⟩:=eJ
   obtain⟨b',off,rfl,_,_,cs,jo,M8⟩:=hr i sv
   rw[hb]at QN;cases QN
   have:=hp.eq.2
   subst this
   rw[cF]at jo
   have M9:Rd w M e cs (γ l i e.zero):=by rw[eF l i e.zero sv];exact M8
   have h2:=hp.rd hi M9
   have h3:=hp.bound hi
   have DF:=M9.length
   refine⟨υ,y,_,hK,b,_,_,rfl,?_,h2⟩
   intro j v hj
   rw[ff]at hj
   split at hj
   ·rw[fg]at hj
    have:=jo _ v hj
    rwa [←gB]at this
   ·cases hj
  |cQ _ _ _ _=>cases h
  |cq _ _ _=>cases h
  |gone=>cases h
 ·cases h
theorem Mem.linked{H:Nat→Option ar}(hm:Mem c H w M ν){id:Nat}{τ:Ty}{x:τ.den}{q:List Step}{j:Nat}(hid:H id=some (.cQ τ x q j)):
  ∃b cs t dL e,ν id= .pointer (some ⟨b,0,none⟩)∧w.heap[b]? =some (.cells cs t (0,0))∧M b∧Rd w M τ dL x∧cs.toList=bG dL (aO q τ) [ν j]∧(ν j).oneCell'=true∧cj q τ (.slice e)=true∧aO q τ<dL.length∧H j≠none:=by
 have dZ:=hm.dd id _ hid
 simp only[ER]at dZ
 obtain⟨b,cs,t,dL,u,hb,hg,hM,hr,jW,h1,e,hq⟩:=dZ
 obtain⟨hj,b',bA,kF⟩:=hm.cQ id _ _ _ _ hid
 rw[hb]at bA;cases bA
 obtain⟨y,o,hp⟩:=kD hq x
 have cy:aO q τ<dL.length:=by
  have:=hp.bound (eG hq).1
  have h2:=hp.eq.2
  have h3:=hr.length
  have:(Ty.slice e).size=1:=rfl
  omega
 have hu:u=ν j:=by
  rw[cell_of hg,←cM,jW,nM cy]at kF
  exact Option.some.inj kF
 subst hu
 exact⟨b,cs,t,dL,e,hb,hg,hM,hr,jW,h1,hq,cy,hj⟩
theorem lD{H:Nat→Option ar}(hm:Mem c H w M ν){id:Nat}{τ:Ty}{x:τ.den}{q:List Step}{j:Nat}(hid:H id=some (.cQ τ x q j)){k:τ.den→dh→Option α}(h:qE j q τ x H k=some r):
  ∃z ups M',k z ups=some r∧Tr c H w M ν (aN H ups) w M' ν∧Fz H (aN H ups)∧((∃e l,H j=some (.gr e l)∧ups=[])∨ ∃e l,H j=some (.own e l)∧ups=[(j,some (.gr e l))])∧ ∃b cs t,ν id= .pointer (some ⟨b,0,none⟩)∧w.heap[b]? =some (.cells cs t (0,0))∧M' b∧Rd w M' τ cs.toList z:=by
 obtain⟨b,cs,t,dL,e0,hb,hg,hM,hr,jW,h1,hq,cy,hj⟩:=hm.linked hid
 have D4:=(eG hq).1
 unfold qE at h
 split at h
 ·rename_i e l pJ
  obtain⟨z,hz,nO,vu,iW⟩:=gI h
  obtain⟨M',cI,hV,QO⟩:=Tr.freeze hm pJ
  refine⟨z,_,M',hz,cI,λi=> ?_,.inr ⟨e,l,pJ,rfl⟩,b,cs,t,hb,hg,?_,?_⟩
  ·by_cases hi:i=j
   ·subst hi;exact .inr ⟨e,l,pJ,aa _ _ _⟩
   ·exact .inl (ae _ _ hi)
  ·refine(QO b).2 ⟨hM,λII=> ?_⟩
   have dT:j≠id:=λe=>by rw[e,hid]at pJ;cases pJ
   exact hm.ob j id _ _ b dT pJ trivial hid trivial II (by rw[hb];rfl)
  ·rw[jW]
   exact iW w M' dL [ν j] D4 (hr.aK cI.aK) (V.slice.1 hV)
 ·rename_i e l pJ
  obtain⟨z,hz,nO,vu,iW⟩:=gI h
  have dZ:=hm.dd j _ pJ
  simp only[ER]at dZ
  refine⟨z,_,M,hz,.refl hm,.refl H,.inl ⟨e,l,pJ,rfl⟩,b,cs,t,hb,hg,hM,?_⟩
  rw[jW]
  exact iW w M dL [ν j] D4 hr dZ.1
 ·cases h
theorem Mq{τ υ:Ty}{t:TypeId}(hE:EnvTy P E)(ht:E.ty t=some τ)(h:cj ([]:List Step) υ τ=true):υ=τ:=bs h
theorem Rd.JX{e:Ty}{v:Value}{cs:List Value}{l:List e.den}(h:Rd w M (.slice e) cs l): ∃a n cap,cs=[.slice a n cap]:=by
 simp only[Rd]at h
 obtain⟨a,cap,rfl,_⟩:=h
 exact⟨a,_,cap,rfl⟩
theorem oi{ρ:Operand→Value}{t:TypeId}{x:Operand}(ho:o.op= .load t x){τ:Ty}(h:dY P τ t)(ha:τ.isAgg=false){b off:Nat}{v:Value}(hx:ρ x= .pointer (some ⟨b,off,none⟩))(hc:w.cell? ⟨b,off,none⟩=some v):
  (execOp ρ o).run P w= .ok (.value v) w:=by
 have:(loadVar t ⟨b,off,none⟩).run P w= .ok v w:=by
  simp[loadVar,iD h,ha,load,Sem.run,hc]
 simp[execOp,ho,hx,Instr.loadAt,Instr.sureAddr,this]
theorem yM(hE:EnvTy P E)(hc:Core c σ a.tmps w M ν){t:TypeId}{x:Operand}(ho:o.op= .load t x){K:cN α}{τ:Ty}(ht:E.ty t=some τ)
  (h:eI (σ.ρ x) σ.H (fun υ y rd=>aP υ τ y λz=>K (.val τ z) rd [])=some r) (hn:cr c σ a o w M ν K r next):o.wp P a w next Q:=by
 obtain⟨υ,y,rd,h,b,off,cs,hu,jo,hr⟩:=rB hc.mem (hc.ev x) h
 obtain⟨e,h⟩:=aw h
 subst e
 refine aq (nf ho (hE.ty t _ ht) hu jo hr) (hn _ _ _ _ _ _ _ h (.refl hc.mem) ?_)
 simp only[VR]
 exact V.aC hr
theorem Bl(hE:EnvTy P E)(hc:Core c σ a.tmps w M ν){t:TypeId}{x:Operand}(ho:o.op= .load t x){K:cN α}{τ:Ty}(ht:E.ty t=some τ)
  (h:kB τ (σ.ρ x) σ.H K=some r) (hn:cr c σ a o w M ν K r next):o.wp P a w next Q:=by
 unfold kB at h
 simp only at h
 split at h
 ·rename_i id p hx
  split at h
  ·rename_i υ z q j hid
   have hv:=hc.ev x
   rw[hx]at hv
   simp only[VR]at hv
   obtain⟨e1,pK,dR⟩:=hv
   rw[hid]at pK;cases pK
   simp only[AR]at dR
   obtain⟨hi,b,hb,hu⟩:=dR
   obtain⟨b',cs,te,dL,e0,bA,hg,hM,hr,jW,h1,hq,cy,hj⟩:=hc.mem.linked hid
   rw[hb]at bA;cases bA
   cases hp:vA p q
   ·rw[hp]at h
    cases xa:n0 p q
    ·
     rw[xa]at h
     simp only[aj]at h
     obtain⟨υ',y,o',oc,h⟩:=ed h
     obtain⟨e2,h⟩:=aw h
     subst e2
     have IJ:=oc.apart hi hq xa
     have JO:=oc.eq.2
     subst JO
     have vu:=oc.bound hi
     have hlen:=hr.length
     have eJ:Rd w M υ' ((cs.toList.drop (aO p υ)).take υ'.size) y:=by
      rw[jW,sN (by simp only[aR];omega) (by simp only[aR];omega)]
      exact oc.rd hi hr
     refine aq (nf ho (hE.ty t _ ht) hu (At.of_block hg _ _) eJ) (hn _ _ _ _ _ M ν h (.refl hc.mem) ?_)
     simp only[VR]
     exact V.aC eJ
    ·
     rw[xa]at h
     simp only[aj,ah]at h
     obtain⟨z',ups,M',h,cI,_,_,b2,Bm,t2,lz,Bn,xe,D5⟩:=lD hc.mem hid h
     rw[hb]at lz;cases lz
     rw[hg]at Bn;cases Bn
     obtain⟨υ',y,o',oc,h⟩:=ed h
     obtain⟨e2,h⟩:=aw h
     subst e2
     have JO:=oc.eq.2
     subst JO
     have eJ:=oc.rd hi D5
     refine aq (nf ho (hE.ty t _ ht) hu (At.of_block hg _ _) eJ) (hn _ _ _ _ _ M' ν h cI ?_)
     simp only[VR]
     exact V.aC eJ
   ·
    rw[hp]at h
    have:=ox hp
    subst this
    simp only[ah]at h
    obtain⟨G2,hK⟩:=aG h
    have hτ:τ= .slice e0:=(eG G2).2.symm.trans (eG hq).2
    subst hτ
    have kF:w.cell? ⟨b,aO p υ,none⟩=some (ν j):=by rw[cell_of hg,←cM,jW,nM cy]
    refine aq (oi ho (hE.ty t _ ht) rfl hu kF) (hn _ _ _ _ _ M ν hK (.refl hc.mem) ?_)
    simp only[VR]
    exact⟨hj,trivial⟩
  ·exact yM hE hc ho ht h hn
 ·exact yM hE hc ho ht h hn
theorem oA{τ:Ty}{n:Nat}(h:lx τ n=true): ∃e,cj [.dw n] τ (.slice e)=true∧n4 τ n=some (.slice e):=by
 unfold lx at h
 split at h
 ·rename_i e he
  exact⟨e,by simp[cj,he],he⟩
 ·cases h
theorem iE{τ:Ty}{n:Nat}{e:Ty}(h:cj [.dw n] τ (.slice e)=true):lx τ n=true:=by
 unfold cj at h
 unfold lx
 split at h
 ·rename_i a ha
  rw[ha]
  rw[show a= .slice e from bs h]
 ·cases h
theorem tO{τ:Ty}{n:Nat}(h:lx τ n=true):τ.isAgg=true:=by
 cases τ<;>first|rfl|(simp[lx,n4]at h)
theorem D6(hE:EnvTy P E)(hc:Core c σ a.tmps w M ν){t:TypeId}{x:Operand}(ho:o.op= .load t x){K:cN α}{τ:Ty}(ht:E.ty t=some τ)
  (h:pA E τ (σ.ρ x) σ.H K=some r) (hn:cr c σ a o w M ν K r next):o.wp P a w next Q:=by
 unfold pA at h
 split at h
 ·rename_i id Cn hx
  split at h
  ·rename_i υ z n j hid
   obtain⟨e,h⟩:=aw h
   subst e
   obtain⟨b,cs,te,dL,e0,hb,hg,hM,hr,jW,h1,hq,cy,hj⟩:=hc.mem.linked hid
   have hv:=hc.ev x
   rw[hx]at hv
   simp only[VR]at hv
   obtain⟨e1,pK,dR⟩:=hv
   rw[hid]at pK;cases pK
   simp only[AR]at dR
   obtain⟨hi,b',bA,hu⟩:=dR
   rw[hb]at bA;cases bA
   have hl:cs.toList.length=υ.size:=by rw[jW,bD (by simp only[aR];omega),hr.length]
   refine aq (tJ (P:=P) (cs:=cs.toList) ho (hE.ty t _ ht) (tO (iE hq)) hu ?_ hl) (hn (.vB υ z n j) _ [] _ _ M ν h (.refl hc.mem) ?_)
   ·have:=At.of_block hg 0 cs.toList.length
    rw[cW,gn]at this
    exact this
   ·simp only[VR]
    exact⟨_,dL,rfl,hr,by simpa [aO]using jW,hj,iE hq⟩
  ·exact Bl hE hc ho ht h λv rd ups v' w' M' ν' h1 h2 h3=>hn v (id::rd) ups v' w' M' ν' h1 h2 h3
 ·exact Bl hE hc ho ht h hn
theorem Fz.own{H H1:Nat→Option ar}(h:Fz H H1){i:Nat}{e:Ty}{l:List e.den}(hi:H i=some (.own e l)):H1 i=some (.own e l)∨H1 i=some (.gr e l):=by
 rcases h i with h'|⟨e',l',h1,h2⟩
 ·exact .inl (by rw[h',hi])
 ·rw[hi]at h1;cases h1;exact .inr h2
theorem Co(hE:EnvTy P E)(hc:Core c σ a.tmps w M ν){t:TypeId}{x y:Operand}(ho:o.op= .store t x y){K:cN α}{τ:Ty}(ht:E.ty t=some τ)
  (h:fm τ (σ.ρ x) (σ.ρ y) σ.H K=some r) (hn:cr c σ a o w M ν K r next):o.wp P a w next Q:=by
 unfold fm at h
 split at h
 ·rename_i id p hx
  obtain⟨z,rd,ups,M',h,cI,hV,hz,eJ⟩:=eh (.refl _) hc.mem (hc.ev y) h
  have hv:=hc.ev x
  rw[hx]at hv
  have JY:=VR.aK cI.aK cI.goes hv
  have lE:=hE.ty t τ ht
  have tP:=hV.cells.length
  rw[az]at tP
  split at h
  ·rename_i υ x0 hid
   have gW:=hz.obj hid
   obtain⟨x1,hK,nO,vu,iW⟩:=gI h
   simp only[VR]at JY
   obtain⟨e1,pK,dR⟩:=JY
   rw[gW]at pK;cases pK
   simp only[AR]at dR
   obtain⟨hi,b,hb,hu⟩:=dR
   have dZ:=cI.mem.dd id _ gW
   simp only[ER]at dZ
   obtain⟨b',cs,te,bA,hg,hM,hr⟩:=dZ
   rw[hb]at bA;cases bA
   have vu:=vu hi
   have DF:=hr.length
   rw[az]at DF
   have bk:=dG (P:=P) ho lE hu hg tP ω hV.cells.eE
   rw[az]at bk
   have nh:Tr c (aN σ.H ups) w M' ν (au (aN σ.H ups) id (some (.obj υ x1))) (w.setRow b (bG cs.toList (aO p υ) (a.eval y).cells.toList).toArray) M' ν:=by
    refine Tr.write (e':= .obj υ x1) cI.mem gW trivial trivial rfl (by rw[hb];rfl) hg λwh hk ni=> ?_
    simp only[ER]
    refine⟨b,_,te,hb,setRow_heap w b cs _ te _ hg,ni,?_⟩
    exact(iW w M' cs.toList _ hi hr hV.cells).aK hk
   refine fp bk ?_
   refine hn _ _ _ _ _ M' ν hK ?_ (by simp[VR])
   rw[bT]
   have:=cI.trans nh
   unfold bG at this
   rw[az]at this
   exact this
  ·rename_i e l hid
   split at h
   ·rename_i i q h0
    obtain⟨pL,h⟩:=fv h
    have gW:aN σ.H ups id=some (.own e l):=by rw[eJ id pL];exact hid
    obtain⟨y1,hK,nO,vu,iW⟩:=gI h
    simp only[VR]at JY
    obtain⟨e1,pK,dR⟩:=JY
    rw[gW]at pK;cases pK
    simp only[AR]at dR
    obtain⟨i',q',G2,sv,hi,b,n,cp,hb,hu⟩:=dR
    cases G2
    have dZ:=cI.mem.dd id _ gW
    simp only[ER]at dZ
    rcases dZ with⟨rfl,_⟩|⟨b',cs,te,cap,bA,hg,hM,Cm,hl,sO,hs,hr⟩
    ·simp at sv
    ·rw[hb]at bA;cases bA
     have vu:=vu hi
     have ew:=bH (s:=e.size) sv
     have iC:l.length*e.size≤cp*e.size:=dD _ hl
     have bk:=dG (P:=P) ho lE hu hg tP ω hV.cells.eE
     rw[az]at bk
     have QP:=hr i sv
     rw[←eF l i e.zero sv]at QP
     have fY:=iW w M' _ _ hi QP hV.cells
     have SX:((cs.toList.drop (i*e.size)).take e.size).length=e.size:=QP.length
     have G3:bG cs.toList (i*e.size) (bG ((cs.toList.drop (i*e.size)).take e.size) (aO q e) (a.eval y).cells.toList)=bG cs.toList (i*e.size+aO q e) (a.eval y).cells.toList:=by
      have Gz:=fY.length
      have e1:cs.toList=cs.toList.take (i*e.size)++(((cs.toList.drop (i*e.size)).take e.size)++cs.toList.drop (i*e.size+e.size)):=by
       rw[←dE,fE,fE]
      have cy:(cs.toList.take (i*e.size)).length=i*e.size:=by rw[aT,az];omega
      conv=>rhs;rw[e1]
      rw[show i*e.size+aO q e=(cs.toList.take (i*e.size)).length+aO q e from by rw[cy],nL,pD (by rw[SX,az];omega)]
      generalize bG ((cs.toList.drop (i*e.size)).take e.size) (aO q e) (a.eval y).cells.toList=m at Gz ⊢
      unfold bG
      rw[Gz,bq]
     have nh:Tr c (aN σ.H ups) w M' ν (au (aN σ.H ups) id (some (.own e (List.set l i y1)))) (w.setRow b (bG cs.toList (i*e.size+aO q e) (a.eval y).cells.toList).toArray) M' ν:=by
      refine Tr.write (e':= .own e (List.set l i y1)) cI.mem gW trivial trivial ⟨rfl,by rw[aY]⟩ (by rw[hb];simp[bK];omega) hg λwh hk ni=> ?_
      simp only[ER]
      refine .inr ⟨b,_,te,cp,by rw[aY];exact hb,setRow_heap w b cs _ te _ hg,ni,Cm,by rw[aY];exact hl,sO,?_,?_⟩
      ·rw[←G3,dr,bD (by rw[fY.length,az];omega),az];exact hs
      ·have h9:cs.toList.length=cp*e.size:=by rw[az,hs]
       have QQ:=gT.set (w:=w) (M:=M') (cs:=cs.toList) (l:=l) hr (by rw[h9];exact iC) sv fY
       rw[G3]at QQ
       exact λj hj=>(QQ j hj).aK hk
     refine fp bk ?_
     refine hn _ _ _ _ _ M' ν hK ?_ (by simp[VR])
     rw[bT]
     have:=cI.trans nh
     unfold bG at this
     rw[az]at this
     exact this
   ·cases h
  ·cases h
 ·cases h
theorem Fz.cQ{H H1:Nat→Option ar}(h:Fz H H1){i:Nat}{τ:Ty}{x:τ.den}{p:List Step}{j:Nat}(hi:H i=some (.cQ τ x p j)):H1 i=some (.cQ τ x p j):=by
 rcases h i with h'|⟨e',l',h1,h2⟩
 ·rw[h',hi]
 ·rw[hi]at h1;cases h1
theorem nj{β:Type}{l a:List β}{o:Nat}(hl:o+a.length≤l.length)(i:Nat):(bG l o a)[i]? =if o≤i∧i<o+a.length then a[i-o]? else l[i]? :=by
 unfold bG
 by_cases h1:i<o
 ·rw[ag ω,bq,ic (by simp;omega),ff,af h1]
 ·by_cases h2:i<o+a.length
  ·rw[af ω,ic (by simp;omega),ib (by simp;omega)]
   simp[c5 (show o≤l.length by omega)]
  ·rw[ag ω,ib (by simp;omega)]
   simp only[aQ,aT,c5 (show o≤l.length by omega),fg]
   congr 1;omega
theorem yN{β:Type}{l a b:List β}{o o':Nat}(h:o'≤o∧o+a.length≤o'+b.length)(h1:o+a.length≤l.length)(h2:o'+b.length≤l.length):bG (bG l o a) o' b=bG l o' b:=by
 have l1:=bD (a:=l) (o:=o) (new:=a) h1
 apply mP
 intro i
 rw[nj ω,nj ω,nj ω]
 by_cases c1:o'≤i∧i<o'+b.length
 ·rw[af c1,af c1]
 ·rw[ag c1,ag c1,ag ω]
theorem kG{β:Type}{l:List β}{o:Nat}{u v:β}(h:o<l.length):bG (bG l o [u]) o [v]=bG l o [v]:=
 yN (by simp) (by simp;omega) (by simp;omega)
theorem yO{β:Type}{l a b:List β}{o o':Nat}(h:o+a.length≤o'∨o'+b.length≤o)(h1:o+a.length≤l.length)(h2:o'+b.length≤l.length):bG (bG l o a) o' b=bG (bG l o' b) o a:=by
 have l1:=bD (a:=l) (o:=o) (new:=a) h1
 have l2:=bD (a:=l) (o:=o') (new:=b) h2
 apply mP
 intro i
 rw[nj ω,nj ω,nj ω,nj ω]
 by_cases c1:o'≤i∧i<o'+b.length
 ·rw[af c1,ag ω,af c1]
 ·rw[ag c1]
  by_cases c2:o≤i∧i<o+a.length
  ·rw[af c2,af c2]
  ·rw[ag c2,ag c2,ag c1]
theorem yP{m:(υ:Ty)→υ.den→(υ.den→Option α)→Option α}: ∀{τ:Ty} {x:τ.den} {n:Nat} {k:τ.den→Option α},cB τ x n m k=some r→ ∃υ y o k',rq τ x n υ y o∧m υ y k'=some r:=λh=>by
 obtain⟨υ,y,o,k',h1,h2,_⟩:=ei h
 exact⟨υ,y,o,k',h1,h2⟩
theorem tQ{υ:Ty}{u:υ.den}: ∀{p:List Step} {τ:Ty} {x:τ.den} {k:τ.den→Option α},mD υ u p τ x k=some r→ ∃y o,w9 p τ x υ y o
 |[],τ,x,k,h=>by
  obtain⟨e,_⟩:=aw (h:aP υ τ u k=some r)
  subst e
  exact⟨x,0,.nil x⟩
 | .dw n::p,τ,x,k,h=>by
  obtain⟨υ',y,o,k',hf,hm⟩:=yP (h:cB τ x n _ k=some r)
  obtain⟨y',o',hp⟩:=tQ (k:=k') hm
  exact⟨y',_,.dw hf hp⟩
 | .idx i::p,τ,x,k,h=>by
  cases τ with
  |arr n e=>
   obtain⟨y',o',hp⟩:=tQ (p:=p) (τ:=e) (x:=γ x i e.zero) (k:=λz=>k (List.set x i z)) h
   exact⟨y',_,.idx hp⟩
  |_=>simp[mD,sJ]at h
theorem wk: ∀{p q:List Step} {τ e:Ty},n0 p q=true→cj q τ (.slice e)=true→aO p τ≤aO q τ∧aO q τ+1≤aO p τ+(vE p τ).size
 |[],q,τ,e,_,hq=>by
  obtain⟨_,_,oc⟩:=kD hq τ.zero
  have:=oc.bound (eG hq).1
  have h2:=oc.eq.2
  have:(Ty.slice e).size=1:=rfl
  simp only[aO,vE]
  omega
 | .dw a::p,.dw b::q,τ,e,hp,hq=>by
  simp only[n0,aV]at hp
  have:=bY hp.1
  subst this
  unfold cj at hq
  split at hq
  ·rename_i c hc
   obtain⟨_,_,hf⟩:=ef hc τ.zero
   have:=hf.eq.1
   subst this
   have:=wk hp.2 hq
   simp only[aO,vE]
   omega
  ·cases hq
 | .dw _::_,[],_,_,hp,_| .dw _::_,.idx _::_,_,_,hp,_| .idx _::_,_,_,_,hp,_=>by simp[n0]at hp
theorem ER.wm{H:Nat→Option ar}(hm:Mem c H w M ν){k:Nat}{e:Ty}{l:List e.den}(hk:H k=some (.own e l)): ∃ad cp,ν k= .slice ad l.length cp:=by
 have:=hm.dd k _ hk
 simp only[ER]at this
 rcases this with⟨rfl,a,hv⟩|⟨b,cs,t,cap,hv,_⟩
 ·exact⟨a,0,hv⟩
 ·exact⟨_,cap,hv⟩
theorem lF(hE:EnvTy P E)(hc:Core c σ a.tmps w M ν){t:TypeId}{x y:Operand}(ho:o.op= .store t x y){K:cN α}{τ:Ty}(ht:E.ty t=some τ){id k:Nat}{q:List Step}{e:Ty}{υ:Ty}{z:υ.den}
  (hx:σ.ρ x= .dg id q) (hy:σ.ρ y= .ref k) {en:ar} (hid:σ.H id=some en) (G4:en.mut) (pM:en.eg (.cQ υ z q k)) (hq:cj q υ (.slice e)=true)
  (eT: ∃b cs te dL u,ν id= .pointer (some ⟨b,0,none⟩)∧w.heap[b]? =some (.cells cs te (0,0))∧Rd w M υ dL z∧cs.toList=bG dL (aO q υ) [u])
  (h:oh τ id k e q υ z σ.H K=some r) (hn:cr c σ a o w M ν K r next):o.wp P a w next Q:=by
 unfold oh at h
 split at h
 ·rename_i e' l hk
  obtain⟨e1,h1⟩:=bB h
  clear h
  subst e1
  obtain⟨e2,h2⟩:=bB h1
  clear h1
  subst e2
  obtain⟨z',hK,nO,vu,iW⟩:=gI h2
  obtain⟨b,cs,te,dL,u,hb,hg,hr,jW⟩:=eT
  have D4:=(eG hq).1
  obtain⟨ad,cp,hνk⟩:=ER.wm hc.mem hk
  have mh:=hc.ev y
  rw[hy]at mh
  simp only[VR]at mh
  have mh:=mh.2
  have vu:=vu D4
  have hlen:=hr.length
  have Bo:(Ty.slice e').size=1:=rfl
  have cy:aO q υ<dL.length:=ω
  have tP:cs.toList.length=dL.length:=by rw[jW];exact bD (by simp;omega)
  have hv:=hc.ev x
  rw[hx]at hv
  simp only[VR]at hv
  obtain⟨e3,IK,dR⟩:=hv
  rw[hid]at IK;cases IK
  have dR:=dR.eg pM
  simp only[AR]at dR
  obtain⟨_,b',bA,hu⟩:=dR
  rw[hb]at bA;cases bA
  have JZ:(a.eval y).cells.toList=[ν k]:=by rw[mh,hνk];rfl
  have ir:(a.eval y).cells.size=(Ty.slice e').size:=by rw[←az,JZ];rfl
  have bk:=dG (P:=P) ho (hE.ty t _ ht) hu hg ir (by rw[←az];omega) (by rw[JZ,hνk];simp[Value.oneCell'])
  have fY:(cs.toList.take (aO q υ)++(a.eval y).cells.toList++cs.toList.drop (aO q υ+(a.eval y).cells.toList.length))=bG dL (aO q υ) [ν k]:=by
   rw[JZ]
   show bG cs.toList (aO q υ) [ν k]=_
   rw[jW,kG cy]
  rw[fY]at bk
  have QR:Rd w M υ (bG dL (aO q υ) [.slice none 0 0]) z':=iW w M dL [.slice none 0 0] D4 hr (Rd.zero w M (.slice e'))
  have cI:Tr c σ.H w M ν (au σ.H id (some (.cQ υ z' q k))) (w.setRow b (bG dL (aO q υ) [ν k]).toArray) M ν:=by
   refine Tr.write (e':= .cQ υ z' q k) hc.mem hid G4 trivial (by cases en<;>simp only[ar.eg]at pM ⊢ <;>exact pM) (by rw[hb];rfl) hg (λwh kH ni=> ?_) (fun τ' x' p' j' hl=> ?_)
   ·simp only[ER]
    refine⟨b,_,te,bG dL (aO q υ) [.slice none 0 0],ν k,hb,setRow_heap w b cs _ te _ hg,ni,QR.aK kH,?_,by rw[hνk];rfl,e',hq⟩
    rw[kG cy]
   ·cases hl
    refine⟨by rw[hk];simp,b,hb,?_⟩
    rw[cell_of (setRow_heap w b cs _ te _ hg),←cM]
    show(bG dL (aO q υ) [ν k])[aO q υ]? =_
    rw[nM cy]
  exact fp bk (hn _ _ _ _ _ M ν hK cI (by simp[VR]))
 ·cases h
theorem tR(hE:EnvTy P E)(hc:Core c σ a.tmps w M ν){t:TypeId}{x y:Operand}(ho:o.op= .store t x y){K:cN α}{τ:Ty}(ht:E.ty t=some τ)
  (h:eb E τ (σ.ρ x) (σ.ρ y) σ.H K=some r) (hn:cr c σ a o w M ν K r next):o.wp P a w next Q:=by
 have hold:fm τ (σ.ρ x) (σ.ρ y) σ.H K=some r→o.wp P a w next Q:=λh=>Co hE hc ho ht h hn
 unfold eb at h
 simp only at h
 split at h
 ·rename_i id p hx
  have jJ:=hx
  split at h
  ·rename_i υ z hid
   split at h
   ·rename_i q e k iU hy
    cases hp:vA p q
    ·rw[hp]at h;exact hold h
    ·rw[hp]at h
     simp only[ah]at h
     have:=ox hp
     subst this
     have hq:=iV iU
     have dZ:=hc.mem.dd id _ hid
     simp only[ER]at dZ
     obtain⟨b,cs,te,hb,hg,hM,hr⟩:=dZ
     have cy:aO p υ<cs.toList.length:=by
      obtain⟨_,_,oc⟩:=kD hq z
      have:=oc.bound (eG hq).1
      have h2:=oc.eq.2
      have:=hr.length
      have:(Ty.slice e).size=1:=rfl
      omega
     refine lF hE hc ho ht hx hy hid trivial rfl hq ⟨b,cs,te,cs.toList,cs.toList[aO p υ],hb,hg,hr,?_⟩ h hn
     exact(nc (a6 cy)).symm
   ·exact hold h
  ·rename_i υ z q j hid
   obtain⟨b,cs,te,dL,e0,hb,hg,hM,hr,jW,h1,hq,cy,hj⟩:=hc.mem.linked hid
   have D7:fk true (σ.ρ y) σ.H τ (λy rd ups=>mD τ y p υ z λz=>K .any (id::rd) (ups++[(id,some (cond (n0 p q) (.obj υ z) (.cQ υ z q j)))]))=some r→o.wp P a w next Q:=by
    intro h
    obtain⟨u,rd,ups,M',h,cI,hV,hz,eJ⟩:=eh (.refl _) hc.mem (hc.ev y) h
    have gW:=hz.cQ hid
    have hv:=hc.ev x
    rw[hx]at hv
    have JY:=VR.aK cI.aK cI.goes hv
    simp only[VR]at JY
    obtain⟨e1,pK,dR⟩:=JY
    rw[gW]at pK;cases pK
    simp only[AR]at dR
    obtain⟨hi,b1,bL,hu⟩:=dR
    rw[hb]at bL;cases bL
    obtain⟨b2,Bm,YF,Na,e3,lz,Bn,xe,D5,G5,Nb,GA,G6,UX⟩:=cI.mem.linked gW
    rw[hb]at lz;cases lz
    rw[hg]at Bn;cases Bn
    obtain⟨z',hK,nO,vu,iW⟩:=gI h
    have vu:=vu hi
    have DF:=D5.length
    have tP:cs.toList.length=Na.length:=by rw[G5];exact bD (by simp;omega)
    have G7:=hV.cells.length
    rw[az]at G7
    have UY:(a.eval y).cells.toList.length=τ.size:=by rw[az];exact G7
    have bk:=dG (P:=P) ho (hE.ty t _ ht) hu hg G7 (by rw[←az];omega) hV.cells.eE
    have yQ:cs.toList.take (aO p υ)++(a.eval y).cells.toList++cs.toList.drop (aO p υ+(a.eval y).cells.toList.length)=bG cs.toList (aO p υ) (a.eval y).cells.toList:=rfl
    rw[yQ]at bk
    have J0:=iW w M' Na _ hi D5 hV.cells
    have fin: ∀e',e'.mut→ar.eg (.cQ υ z q j) e'→K .any (id::rd) (ups++[(id,some e')])=some r→(∀wh,bJ w M' (w.setRow b (bG cs.toList (aO p υ) (a.eval y).cells.toList).toArray) wh→wh b→ER (w.setRow b (bG cs.toList (aO p υ) (a.eval y).cells.toList).toArray) wh (ν id) e')→
      (∀τ' x' p' j',e'= .cQ τ' x' p' j'→(aN σ.H ups) j'≠none∧ ∃b',ν id= .pointer (some ⟨b',0,none⟩)∧(w.setRow b (bG cs.toList (aO p υ) (a.eval y).cells.toList).toArray).cell? ⟨b',aO p' τ',none⟩=some (ν j'))→o.wp P a w next Q:=by
     intro e' dz vr hK tG iU
     have nh:=Tr.write (e':=e') cI.mem gW trivial dz vr (by rw[hb];rfl) hg tG iU
     refine fp bk (hn _ _ _ _ _ M' ν hK ?_ (by simp[VR]))
     rw[bT]
     exact cI.trans nh
    cases xa:n0 p q
    ·rw[xa]at hK
     simp only[aj]at hK
     obtain⟨yy,oo,oc⟩: ∃y o,w9 p υ z τ y o:=tQ h
     have IJ:=oc.apart hi hq xa
     have UZ:=oc.eq.2
     subst UZ
     have IL:bG cs.toList (aO p υ) (a.eval y).cells.toList=bG (bG Na (aO p υ) (a.eval y).cells.toList) (aO q υ) [ν j]:=by
      rw[G5]
      exact yO (by simp only[aR];omega) (by simp only[aR];omega) ω
     have Gz:=bD (a:=Na) (o:=aO p υ) (new:=(a.eval y).cells.toList) ω
     refine fin (.cQ υ z' q j) trivial rfl hK (λwh hk ni=> ?_) (fun τ' x' p' j' hl=> ?_)
     ·simp only[ER]
      exact⟨b,_,te,_,ν j,hb,setRow_heap w b cs _ te _ hg,ni,J0.aK hk,IL,h1,e0,hq⟩
     ·cases hl
      refine⟨UX,b,hb,?_⟩
      rw[cell_of (setRow_heap w b cs _ te _ hg),←cM]
      show(bG cs.toList (aO p υ) (a.eval y).cells.toList)[aO q υ]? =_
      rw[IL,nM ω]
    ·rw[xa]at hK
     simp only[ah]at hK
     refine fin (.obj υ z') trivial rfl hK (λwh hk ni=> ?_) (fun τ' x' p' j' hl=>by cases hl)
     simp only[ER]
     refine⟨b,_,te,hb,setRow_heap w b cs _ te _ hg,ni,?_⟩
     show Rd _ _ υ (bG cs.toList (aO p υ) (a.eval y).cells.toList) z'
     have gu:=wk xa hq
     rw[nO]at gu
     have ho:bG cs.toList (aO p υ) (a.eval y).cells.toList=bG Na (aO p υ) (a.eval y).cells.toList:=by
      rw[G5]
      exact yN (by simp only[aR];omega) (by simp only[aR];omega) ω
     have h9:=J0.aK hk
     rw[←ho]at h9
     exact h9
   split at h
   ·rename_i q' e k iU hy
    cases hp:(vA p q&&vA q q')
    ·rw[hp]at h;exact D7 h
    ·rw[hp]at h
     simp only[ah]at h
     rw[aV]at hp
     have:=ox hp.1
     subst this
     have:=ox hp.2
     subst this
     refine lF hE hc ho ht hx hy hid trivial rfl (iV iU) ⟨b,cs,te,dL,ν j,hb,hg,hr,jW⟩ h hn
   ·exact D7 h
  ·exact hold h
 ·exact hold h
theorem Cp(hE:EnvTy P E)(hc:Core c σ a.tmps w M ν){t:TypeId}{x y:Operand}(ho:o.op= .store t x y){K:cN α}{τ:Ty}(ht:E.ty t=some τ)
  (h:jS E τ (σ.ρ x) (σ.ρ y) σ.H K=some r) (hn:cr c σ a o w M ν K r next):o.wp P a w next Q:=by
 unfold jS at h
 split at h
 ·rename_i id υ z n hx hy
  split at h
  ·rename_i m e iU
   cases sP:Nat.beq m n
   ·rw[sP]at h
    simp only[aj]at h
    exact tR hE hc ho ht h hn
   ·rw[sP]at h
    simp only[ah]at h
    have sP:=bY sP
    subst sP
    obtain⟨e1,h1⟩:=bB h
    clear h
    subst e1
    have hq:=iV iU
    have mh:=hc.ev y
    rw[hy]at mh
    simp only[VR]at mh
    obtain⟨hV,cs,ad,M7,hz⟩:=mh
    have G7:(a.eval y).cells=cs:=by rw[M7];rfl
    obtain⟨en,hid,G4,hK⟩: ∃en:ar,σ.H id=some en∧(∃z0,en= .obj τ z0∨ ∃q j,en= .cQ τ z0 q j)∧σ.H (id+2)=none∧K .any [id,id+2] [(id,some (.cQ τ z [.dw m] (id+2))),(id+2,some (.own e []))]=some r:=by
     unfold eM at h1
     split at h1
     ·rename_i υ z0 hid
      obtain⟨e2,h2⟩:=bB h1
      clear h1
      subst e2
      obtain⟨h3,h4⟩:=ej h2
      exact⟨_,hid,⟨z0,.inl rfl⟩,h3,h4⟩
     ·rename_i υ z0 q j hid
      obtain⟨e2,h2⟩:=bB h1
      clear h1
      subst e2
      obtain⟨h3,h4⟩:=ej h2
      exact⟨_,hid,⟨z0,.inr ⟨q,j,rfl⟩⟩,h3,h4⟩
     ·cases h1
     ·cases h1
     ·cases h1
    obtain⟨hk,hK⟩:=hK
    have iu:en.mut:=by rcases G4 with⟨z0,rfl|⟨q,j,rfl⟩⟩<;>trivial
    have pM:en.eg (.obj τ z):=by rcases G4 with⟨z0,rfl|⟨q,j,rfl⟩⟩<;>rfl
    obtain⟨b,dL,te,hb,hg,ir⟩: ∃b dL te,ν id= .pointer (some ⟨b,0,none⟩)∧w.heap[b]? =some (.cells dL te (0,0))∧dL.toList.length=τ.size:=by
     rcases G4 with⟨z0,rfl|⟨q,j,rfl⟩⟩
     ·have:=hc.mem.dd id _ hid
      simp only[ER]at this
      obtain⟨b,dL,te,h2,h3,_,h5⟩:=this
      exact⟨b,dL,te,h2,h3,h5.length⟩
     ·obtain⟨b,dL,te,oj,_,h2,h3,_,h5,h6,_,_,h7,_⟩:=hc.mem.linked hid
      refine⟨b,dL,te,h2,h3,?_⟩
      rw[h6,bD (by simp only[aR];omega),h5.length]
    have hv:=hc.ev x
    rw[hx]at hv
    simp only[VR]at hv
    obtain⟨e3,IK,dR⟩:=hv
    rw[hid]at IK;cases IK
    have dR:=dR.eg pM
    simp only[AR]at dR
    obtain⟨_,b',bA,hu⟩:=dR
    rw[hb]at bA;cases bA
    have tP:=hV.cells.length
    have bk:=dG (P:=P) ho (hE.ty t _ ht) hu hg (by rw[←az];exact tP) (by rw[←az,ir];simp[aO]) hV.cells.eE
    have yQ:dL.toList.take (aO [] τ)++(a.eval y).cells.toList++dL.toList.drop (aO [] τ+(a.eval y).cells.toList.length)=(a.eval y).cells.toList:=by
     simp only[aO,ph,fF,cF]
     rw[fa ω,cV]
    rw[yQ]at bk
    have iW:=setRow_heap w b dL (a.eval y).cells.toList.toArray te _ hg
    have cI:=Tr.write (e':= .obj τ z) (new:=(a.eval y).cells.toList.toArray) hc.mem hid iu trivial pM (by rw[hb];rfl) hg (λwh kH ni=>by
     simp only[ER]
     exact⟨b,_,te,hb,iW,ni,hV.cells.aK kH⟩)
    have dT:id+2≠id:=ω
    have nh:=Tr.D2 cI.mem (id:=id) (k:=id+2) (by rw[ae _ _ dT];exact hk) (aa _ _ _) hb iW hq (ad:=ad) (by rw[G7];simpa [aO]using hz)
    have e1:aN (au σ.H id (some (.obj τ z))) [(id,some (.cQ τ z [.dw m] (id+2))),(id+2,some (.own e []))]=aN σ.H [(id,some (.cQ τ z [.dw m] (id+2))),(id+2,some (.own e []))]:=by
     show au (au (au σ.H id _) id _) (id+2) _=au (au σ.H id _) (id+2) _
     rw[oz]
    rw[e1]at nh
    exact fp bk (hn _ _ _ _ _ _ _ hK (cI.trans nh) (by simp[VR]))
  ·exact tR hE hc ho ht h hn
 ·exact tR hE hc ho ht h hn
theorem qK(hE:EnvTy P E)(hc:Core c σ a.tmps w M ν){t:TypeId}{x y:Operand}(ho:o.op= .store t x y){K:cN α}{τ:Ty}(ht:E.ty t=some τ)
  (h:jT E τ (σ.ρ x) (σ.ρ y) σ.H K=some r) (hn:cr c σ a o w M ν K r next):o.wp P a w next Q:=by
 unfold jT at h
 split at h
 ·rename_i id υ z n j hx hy
  split at h
  ·rename_i m e iU
   obtain⟨sP,h0⟩:=aG h
   clear h
   have sP:=bY sP
   subst sP
   obtain⟨e1,h1⟩:=bB h0
   clear h0
   subst e1
   have hq:=iV iU
   have mh:=hc.ev y
   rw[hy]at mh
   simp only[VR]at mh
   obtain⟨cs,dL,M7,J0,jW,hj,om⟩:=mh
   have G7:(a.eval y).cells=cs:=by rw[M7];rfl
   obtain⟨en,hid,G4,h2⟩: ∃en:ar,σ.H id=some en∧(∃z0,en= .obj τ z0∨ ∃q j,en= .cQ τ z0 q j)∧(match σ.H j with
    |some (.own e' _)=>dx e' e (K .any [id,j] [(id,some (.cQ τ z [.dw m] j))])
    |_=>none)=some r:=by
    unfold eM at h1
    split at h1
    ·rename_i υ z0 hid
     obtain⟨e2,h2⟩:=bB h1
     clear h1
     subst e2
     exact⟨_,hid,⟨z0,.inl rfl⟩,h2⟩
    ·rename_i υ z0 q j hid
     obtain⟨e2,h2⟩:=bB h1
     clear h1
     subst e2
     exact⟨_,hid,⟨z0,.inr ⟨q,j,rfl⟩⟩,h2⟩
    ·cases h1
    ·cases h1
    ·cases h1
   obtain⟨l,pJ,hK⟩: ∃l,σ.H j=some (.own e l)∧K .any [id,j] [(id,some (.cQ τ z [.dw m] j))]=some r:=by
    split at h2
    ·rename_i e' l pJ
     obtain⟨e3,h3⟩:=bB h2
     clear h2
     subst e3
     exact⟨l,pJ,h3⟩
    ·cases h2
   have qH:(ν j).oneCell'=true:=by
    have:=hc.mem.dd j _ pJ
    simp only[ER]at this
    rcases this with⟨_,ad,hv⟩|⟨b,cs,t,cap,hv,_⟩<;>rw[hv]<;>rfl
   have iu:en.mut:=by rcases G4 with⟨z0,rfl|⟨q,j,rfl⟩⟩<;>trivial
   have pM:en.eg (.cQ τ z [.dw m] j):=by rcases G4 with⟨z0,rfl|⟨q,j,rfl⟩⟩<;>rfl
   obtain⟨b,Bm,te,hb,hg,ir⟩: ∃b Bm te,ν id= .pointer (some ⟨b,0,none⟩)∧w.heap[b]? =some (.cells Bm te (0,0))∧Bm.toList.length=τ.size:=by
    rcases G4 with⟨z0,rfl|⟨q,j,rfl⟩⟩
    ·have:=hc.mem.dd id _ hid
     simp only[ER]at this
     obtain⟨b,dL,te,h2,h3,_,h5⟩:=this
     exact⟨b,dL,te,h2,h3,h5.length⟩
    ·obtain⟨b,dL,te,oj,_,h2,h3,_,h5,h6,_,_,h7,_⟩:=hc.mem.linked hid
     refine⟨b,dL,te,h2,h3,?_⟩
     rw[h6,bD (by simp only[aR];omega),h5.length]
   have hv:=hc.ev x
   rw[hx]at hv
   simp only[VR]at hv
   obtain⟨e3,IK,dR⟩:=hv
   rw[hid]at IK;cases IK
   have dR:=dR.eg pM
   simp only[AR]at dR
   obtain⟨_,b',bA,hu⟩:=dR
   rw[hb]at bA;cases bA
   obtain⟨y0,o0,IM⟩:=ef (oA om).choose_spec.2 z
   have SZ:=IM.bound
   rw[IM.eq.2]at SZ
   have Bo:(Ty.slice (oA om).choose).size=1:=rfl
   rw[Bo]at SZ
   have MY:=J0.length
   have cy:cH τ m<dL.length:=ω
   have tP:cs.toList.length=τ.size:=by rw[jW,bD (by simp only[aR];omega),MY]
   have tS: ∀v∈cs.toList,v.oneCell'=true:=by
    intro v hv
    rw[jW]at hv
    unfold bG at hv
    simp only[bg,eC]at hv
    rcases hv with(hv|hv)|hv
    ·exact J0.eE v (ig hv)
    ·rw[hv];exact qH
    ·exact J0.eE v (tb hv)
   have bk:=dG (P:=P) ho (hE.ty t _ ht) hu hg (by rw[G7,←az];exact tP) (by rw[←az,ir];simp[aO]) (by rw[G7];exact tS)
   have yQ:Bm.toList.take (aO [] τ)++(a.eval y).cells.toList++Bm.toList.drop (aO [] τ+(a.eval y).cells.toList.length)=cs.toList:=by
    rw[G7]
    simp only[aO,ph,fF,cF]
    rw[fa ω,cV]
   rw[yQ]at bk
   have iW:=setRow_heap w b Bm cs.toList.toArray te _ hg
   have Nc:aO [.dw m] τ=cH τ m:=by simp[aO]
   have cI:=Tr.write (e':= .cQ τ z [.dw m] j) (new:=cs.toList.toArray) hc.mem hid iu trivial pM (by rw[hb];rfl) hg (λwh kH ni=>by
    simp only[ER]
    exact⟨b,_,te,dL,ν j,hb,iW,ni,J0.aK kH,by rw[Nc];exact jW,qH,e,hq⟩) (fun τ' x' p' j' hl=>by
    cases hl
    refine⟨hj,b,hb,?_⟩
    rw[cell_of iW,Nc]
    show cs.toList.toArray[cH τ m]? =_
    rw[mK,jW,nM cy])
   exact fp bk (hn _ _ _ _ _ _ _ hK cI (by simp[VR]))
  ·cases h
 ·exact Cp hE hc ho ht h hn
theorem Cq(hE:EnvTy P E)(hc:Core c σ a.tmps w M ν){t:TypeId}{x y:Operand}(ho:o.op= .store t x y){K:cN α}{τ:Ty}(ht:E.ty t=some τ)
  (h:iT E τ (σ.ρ x) (σ.ρ y) σ.H K=some r) (hn:cr c σ a o w M ν K r next):o.wp P a w next Q:=by
 unfold iT at h
 split at h
 ·rename_i id n k hx hy
  cases hb:JM E id n
  ·rw[hb]at h
   exact qK hE hc ho ht (by rw[hx,hy];exact h) hn
  ·rw[hb]at h
   simp only[ah]at h
   split at h
   ·rename_i υ z q j hid
    cases hp:vA q [.dw n]
    ·rw[hp]at h
     simp only[aj]at h
     split at h
     ·rename_i e Cr
      obtain⟨z',ups,M',h,cI,S1,_,b,cs,te,MZ,hg,hM,hr⟩:=lD hc.mem hid h
      have hq:cj [.dw n] υ (.slice e)=true:=by simp[cj,Cr]
      have DG:Core c ⟨σ.T,aN σ.H ups⟩ a.tmps w M' ν:=⟨cI.mem,λi=>VR.aK cI.aK cI.goes (hc.tmp i)⟩
      have cy:aO [.dw n] υ<cs.toList.length:=by
       obtain⟨y0,o0,IM⟩:=ef Cr z'
       have h1:=IM.bound
       have h2:=IM.eq.2
       have h3:=hr.length
       have h4:(Ty.slice e).size=1:=rfl
       show cH υ n+0<_
       omega
      refine lF (σ:=⟨σ.T,aN σ.H ups⟩) hE DG ho ht hx hy (S1.cQ hid) trivial rfl hq ⟨b,cs,te,cs.toList,cs.toList[aO [.dw n] υ],MZ,hg,hr,(nc (a6 cy)).symm⟩ h ?_
      intro v rd dy v' w' wh ν'' hK Cs G8
      refine hn v _ _ v' w' wh ν'' hK ?_ ?_
      ·rw[bT];exact cI.trans Cs
      ·rw[bT];exact G8
     ·cases h
    ·rw[hp]at h
     exact qK hE hc ho ht (by rw[hx,hy];exact h) λv rd ups v' w' M' ν' h1 h2 h3=>hn v (id::rd) ups v' w' M' ν' h1 h2 h3
   ·rename_i υ z hid
    split at h
    ·rename_i e Cr
     have hq:cj [.dw n] υ (.slice e)=true:=by simp[cj,Cr]
     have dZ:=hc.mem.dd id _ hid
     simp only[ER]at dZ
     obtain⟨b,cs,te,MZ,hg,hM,hr⟩:=dZ
     have cy:aO [.dw n] υ<cs.toList.length:=by
      obtain⟨y0,o0,IM⟩:=ef Cr z
      have h1:=IM.bound
      have h2:=IM.eq.2
      have h3:=hr.length
      have h4:(Ty.slice e).size=1:=rfl
      show cH υ n+0<_
      omega
     exact lF hE hc ho ht hx hy hid trivial rfl hq ⟨b,cs,te,cs.toList,cs.toList[aO [.dw n] υ],MZ,hg,hr,(nc (a6 cy)).symm⟩ h hn
    ·cases h
   ·cases h
 ·exact qK hE hc ho ht h hn
theorem nb{n:Nat}(h:Nat.beq n 0=false):n≠0:=by rw[←gm,mW]at h;exact h
theorem At.sub{b off:Nat}{cs:List Value}(h:At w b off cs)(o n:Nat):At w b (off+o) ((cs.drop o).take n):=by
 intro j v hj
 rw[ff]at hj
 split at hj
 ·rw[fg]at hj
  have:=h _ v hj
  rwa [←gB]at this
 ·cases hj
def mi:ar→List Step→Option Ty
 | .obj τ _,p=>some (vE p τ)
 | .cQ τ _ _ _,p=>some (vE p τ)
 | .own e _,.idx _::p| .gr e _,.idx _::p=>some (vE p e)
 |_,_=>none
theorem tT{id:Nat}{p:List Step}{H:Nat→Option ar}{k:Ty→Option α}(h:eM id p H k=some r): ∃e υ,H id=some e∧mi e p=some υ∧k υ=some r:=by
 unfold eM at h
 split at h
 ·rename_i τ x hid
  obtain⟨υ,y,o,hp,hk⟩:=ed h
  exact⟨_,υ,hid,by simp[mi,hp.eq.1],hk⟩
 ·rename_i τ x _ _ hid
  obtain⟨υ,y,o,hp,hk⟩:=ed h
  exact⟨_,υ,hid,by simp[mi,hp.eq.1],hk⟩
 ·rename_i e l hid
  split at h
  ·obtain⟨υ,y,o,hp,hk⟩:=ed h
   exact⟨_,υ,hid,by simp[mi,hp.eq.1],hk⟩
  ·cases h
 ·rename_i e l hid
  split at h
  ·obtain⟨υ,y,o,hp,hk⟩:=ed h
   exact⟨_,υ,hid,by simp[mi,hp.eq.1],hk⟩
  ·cases h
 ·cases h
theorem AR.step{v:Value}{p:List Step}{u:Value}{e:ar}{υ:Ty}(h:AR v p u e)(ht:mi e p=some υ)(s:Step)(hs:oa [s] υ):
  ∃b off,u= .pointer (some ⟨b,off,none⟩)∧AR v (p++[s]) (.pointer (some ⟨b,off+aO [s] υ,none⟩)) e:=by
 cases e with
 |obj τ x=>
  simp only[mi,bZ]at ht
  simp only[AR]at h ⊢
  obtain⟨hi,b,hb,rfl⟩:=h
  subst ht
  exact⟨b,_,rfl,(jH p [s] τ).2 ⟨hi,hs⟩,b,hb,by rw[jG]⟩
 |cQ τ x _ _=>
  simp only[mi,bZ]at ht
  simp only[AR]at h ⊢
  obtain⟨hi,b,hb,rfl⟩:=h
  subst ht
  exact⟨b,_,rfl,(jH p [s] τ).2 ⟨hi,hs⟩,b,hb,by rw[jG]⟩
 |own e l=>
  simp only[AR]at h ⊢
  obtain⟨i,q,rfl,sv,hi,b,n,cp,hb,rfl⟩:=h
  simp only[mi,bZ]at ht
  subst ht
  exact⟨b,_,rfl,i,q++[s],rfl,sv,(jH q [s] e).2 ⟨hi,hs⟩,b,n,cp,hb,by rw[jG,gB]⟩
 |gr e l=>
  simp only[AR]at h ⊢
  obtain⟨i,q,rfl,sv,hi,b,n,cp,hb,rfl⟩:=h
  simp only[mi,bZ]at ht
  subst ht
  exact⟨b,_,rfl,i,q++[s],rfl,sv,(jH q [s] e).2 ⟨hi,hs⟩,b,n,cp,hb,by rw[jG,gB]⟩
 |cq _ _ _=>simp[mi]at ht
 |gone=>simp[mi]at ht
theorem qL(hE:EnvTy P E)(hc:Core c σ a.tmps w M ν){t:TypeId}{x:Operand}{n:Nat}(ho:o.op= .fieldAddr t x n){K:cN α}{τ:Ty}(ht:E.ty t=some τ){id:Nat}{p:List Step}(hx:σ.ρ x= .dg id p)
  (h:eM id p σ.H (fun υ=>dx υ τ (ll τ τ.zero n fun υ' _=>cond (Nat.beq υ'.size 0) none (K (.dg id (p++[.dw n])) [id] [])))=some r) (hn:cr c σ a o w M ν K r next):o.wp P a w next Q:=by
 obtain⟨e,υ,hid,het,h⟩:=tT h
 obtain⟨J1,h_⟩:=bB h
 clear h
 subst J1
 have h:=h_
 clear h_
 obtain⟨υ',y,of,hf,h⟩:=gG h
 obtain⟨hz,h⟩:=fv h
 have hv:=hc.ev x
 rw[hx]at hv
 simp only[VR]at hv
 obtain⟨e',js,dR⟩:=hv
 rw[hid]at js;cases js
 obtain⟨b,off,hu,J2⟩:=dR.step het (.dw n) trivial
 obtain⟨fs,f,xZ,Nd,Mr,wo⟩:=(hE.ty t υ ht).dw hf
 obtain⟨v,bk,QS⟩:=kE (P:=P) ho (w:=w) xZ Nd wo (nb hz) hu
 refine aq bk (hn _ _ _ _ _ M ν h (.refl hc.mem) ?_)
 simp only[VR]
 refine⟨e,hid,?_⟩
 rw[QS,Mr,hf.eq.2]
 simpa [aO]using J2
theorem pN(hE:EnvTy P E)(hc:Core c σ a.tmps w M ν){t:TypeId}{x:Operand}{n:Nat}(ho:o.op= .fieldAddr t x n){K:cN α}{τ:Ty}(ht:E.ty t=some τ){υ:Ty}{z:υ.den}(hx:σ.ρ x= .iP υ z)
  (h:dx υ τ (ll υ z n fun υ y=>cond (Nat.beq υ.size 0) none (K (.iP υ y) [] []))=some r) (hn:cr c σ a o w M ν K r next):o.wp P a w next Q:=by
 obtain⟨he,h1⟩:=bB h
 subst he
 obtain⟨υ',y,of,hf,h⟩:=gG h1
 obtain⟨hz,h⟩:=fv h
 have hv:=hc.ev x
 rw[hx]at hv
 simp only[VR]at hv
 obtain⟨b,off,hu,hb,hM,cs,jo,hr⟩:=hv
 obtain⟨fs,f,xZ,Nd,Mr,wo⟩:=(hE.ty t υ ht).dw hf
 obtain⟨v,bk,QS⟩:=kE (P:=P) ho (w:=w) xZ Nd wo (nb hz) hu
 refine aq bk (hn _ _ _ _ _ M ν h (.refl hc.mem) ?_)
 simp only[VR]
 exact⟨b,off+f.offset,QS,hb,hM,_,by rw[Mr];exact jo.sub of υ'.size,hf.rd hr⟩
theorem V.agg{τ:Ty}(ha:τ.isAgg=true){v:Value}{x:τ.den}(h:V w M τ v x): ∃cs,v= .agg cs∧Rd w M τ cs.toList x:=by
 unfold V at h;rw[af ha]at h;exact h
theorem rq.agg{τ:Ty}{x:τ.den}{n:Nat}{υ:Ty}{y:υ.den}{o:Nat}(h:rq τ x n υ y o):τ.isAgg=true:=by cases h<;>rfl
theorem D8(hE:EnvTy P E)(hc:Core c σ a.tmps w M ν){t:TypeId}{x:Operand}{n:Nat}(ho:o.op= .field t x n){K:cN α}{τ:Ty}(ht:E.ty t=some τ){υ:Ty}{z:υ.den}(hx:σ.ρ x= .val υ z)
  (h:dx υ τ (ll υ z n fun υ y=>K (.val υ y) [] [])=some r) (hn:cr c σ a o w M ν K r next):o.wp P a w next Q:=by
 obtain⟨he,h1⟩:=bB h
 subst he
 obtain⟨υ',y,of,hf,h⟩:=gG h1
 have hv:=hc.ev x
 rw[hx]at hv
 simp only[VR]at hv
 obtain⟨cs,hu,hr⟩:=hv.agg hf.agg
 obtain⟨fs,f,xZ,Nd,Mr,wo⟩:=(hE.ty t υ ht).dw hf
 have jV:=hf.rd hr
 refine aq (xc ho xZ Nd wo hu (by rw[Mr];exact jV)) (hn _ _ _ _ _ M ν h (.refl hc.mem) ?_)
 simp only[VR]
 rw[Mr]
 exact V.aC jV
theorem xf(hE:EnvTy P E)(hc:Core c σ a.tmps w M ν){t:TypeId}{x i:Operand}(ho:o.op= .indexAddr t x i){K:cN α}{τ:Ty}(ht:E.ty t=some τ)
  (h:c3 τ (σ.ρ x) (σ.ρ i) σ.H K=some r) (hn:cr c σ a o w M ν K r next):o.wp P a w next Q:=by
 unfold c3 at h
 obtain⟨k,n,hi,h2⟩:=fO h
 clear h
 have h:=h2
 clear h2
 have yR:=hc.ev i
 rw[hi]at yR
 have yR:=yR.int
 have hv:=hc.ev x
 have lE:=hE.ty t τ ht
 split at h
 ·
  rename_i e
  obtain⟨e',xZ,hle⟩:=lE.slice
  split at h
  ·rename_i υ l hx
   obtain⟨e1,h⟩:=aw h
   subst e1
   obtain⟨gu,h⟩:=aG h
   obtain⟨h0,h1⟩:=jK gu
   have h1:n<(ℓ l:Int):=h1
   rw[hx]at hv
   simp only[VR]at hv
   have hv:=V.slice.1 hv
   simp only[Rd,cc,cn]at hv
   obtain⟨ad,cap,hu,J3,hr⟩:=hv
   obtain⟨b,off,rfl,hb,hM,cs,jo,eJ⟩:=hr n.toNat ω
   refine aq (du ho xZ hle hu yR h0 h1) (hn _ _ _ _ _ M ν h (.refl hc.mem) ?_)
   simp only[VR]
   refine⟨b,_,rfl,hb,hM,cs,jo,?_⟩
   have:Rd w M e cs (γ l n.toNat e.zero):=by rw[eF l n.toNat e.zero ω];exact eJ
   exact this
  ·rename_i id hx
   rw[hx]at hv
   simp only[VR]at hv
   obtain⟨_,hu⟩:=hv
   split at h
   ·rename_i e2 l hid
    obtain⟨J1,h_⟩:=bB h
    clear h
    subst J1
    have h:=h_
    clear h_
    obtain⟨gu,h⟩:=aG h
    obtain⟨h0,h1⟩:=jK gu
    have dZ:=hc.mem.dd id _ hid
    simp only[ER]at dZ
    rcases dZ with⟨rfl,_⟩|⟨b,cs,te,cap,hb,hg,hM,Cm,hl,sO,hs,hr⟩
    ·simp at h1;omega
    ·rw[hb]at hu
     refine aq (du ho xZ hle hu yR h0 h1) (hn _ _ _ _ _ M ν h (.refl hc.mem) ?_)
     simp only[VR]
     refine⟨_,hid,?_⟩
     simp only[AR]
     exact⟨n.toNat,[],rfl,ω,trivial,b,_,_,hb,by simp[aO]⟩
   ·rename_i e2 l hid
    obtain⟨J1,h_⟩:=bB h
    clear h
    subst J1
    have h:=h_
    clear h_
    obtain⟨gu,h⟩:=aG h
    obtain⟨h0,h1⟩:=jK gu
    have dZ:=hc.mem.dd id _ hid
    simp only[ER]at dZ
    obtain⟨eJ,U0⟩:=dZ
    simp only[Rd,cc,cn]at eJ
    obtain⟨ad,cap,hb,J3,hr⟩:=eJ
    rcases U0 with⟨rfl,_⟩|⟨b,n2,c2,lz⟩
    ·simp at h1;omega
    ·rw[hb]at lz;cases lz
     rw[hb]at hu
     refine aq (du ho xZ hle hu yR h0 h1) (hn _ _ _ _ _ M ν h (.refl hc.mem) ?_)
     simp only[VR]
     refine⟨_,hid,?_⟩
     simp only[AR]
     exact⟨n.toNat,[],rfl,ω,trivial,b,_,_,hb,by simp[aO]⟩
   ·cases h
  ·cases h
 ·
  rename_i len e
  obtain⟨e',xZ,hle⟩:=lE.arr
  split at h
  ·rename_i id p hx
   obtain⟨en,υ,hid,het,h⟩:=tT h
   obtain⟨J1,h_⟩:=bB h
   clear h
   subst J1
   have h:=h_
   clear h_
   obtain⟨gu,h⟩:=aG h
   obtain⟨h0,h1⟩:=jK gu
   rw[hx]at hv
   simp only[VR]at hv
   obtain⟨YG,js,dR⟩:=hv
   rw[hid]at js;cases js
   obtain⟨b,off,hu,J2⟩:=dR.step het (.idx n.toNat) ⟨⟨len,e,rfl,ω⟩,trivial⟩
   refine aq (jI ho xZ hle hu yR h0 h1) (hn _ _ _ _ _ M ν h (.refl hc.mem) ?_)
   simp only[VR]
   refine⟨en,hid,?_⟩
   simpa [aO,JP]using J2
  ·rename_i υ l hx
   obtain⟨e1,h⟩:=aw h
   subst e1
   obtain⟨gu,h⟩:=aG h
   obtain⟨h0,h1⟩:=jK gu
   rw[hx]at hv
   simp only[VR]at hv
   obtain⟨b,off,hu,hb,hM,cs,jo,hr⟩:=hv
   refine aq (jI ho xZ hle hu yR h0 h1) (hn _ _ _ _ _ M ν h (.refl hc.mem) ?_)
   simp only[VR]
   exact⟨b,_,rfl,hb,hM,_,jo.sub _ e.size,hr.idx ω⟩
  ·cases h
 ·cases h
theorem sw(hc:Core c σ a.tmps w M ν){x:Operand}(ho:o.op= .nilCheck x){K:cN α}{id:Nat}{p:List Step}(hx:σ.ρ x= .dg id p)
  (h:K (.dg id p) [] []=some r) (hn:cr c σ a o w M ν K r next):o.wp P a w next Q:=by
 have hv:=hc.ev x
 have GB:=hv
 rw[hx]at hv
 simp only[VR]at hv
 obtain⟨e,he,dR⟩:=hv
 obtain⟨ad,hu⟩:=dR.ptr
 refine aq (mg ho hu) (hn _ _ _ _ _ M ν h (.refl hc.mem) ?_)
 rw[←hu,←hx];exact GB
theorem qM(hc:Core c σ a.tmps w M ν){x:Operand}(ho:o.op= .nilCheck x){K:cN α}{τ:Ty}{z:τ.den}(hx:σ.ρ x= .iP τ z)
  (h:K (.iP τ z) [] []=some r) (hn:cr c σ a o w M ν K r next):o.wp P a w next Q:=by
 have hv:=hc.ev x
 have GB:=hv
 rw[hx]at hv
 simp only[VR]at hv
 obtain⟨b,off,hu,_⟩:=hv
 refine aq (mg ho hu) (hn _ _ _ _ _ M ν h (.refl hc.mem) ?_)
 rw[←hu,←hx];exact GB
theorem dF.get{H:Nat→Option ar}: ∀{im:List ax} {vs:List Value},dF w M H ν im vs→ ∀{i:Nat} {x:ax},im[i]? =some x→ ∃v,vs[i]? =some v∧VR w M H ν x v
 |[],_,_,i,x,hx=>by simp at hx
 |y::im,[],h,_,_,_=>by simp[dF]at h
 |y::im,v::vs,h,0,x,hx=>by
  simp only[dF]at h
  simp at hx;subst hx
  exact⟨v,rfl,h.1⟩
 |y::im,v::vs,h,i+1,x,hx=>by
  simp only[dF]at h
  exact dF.get h.2 (by simpa using hx)
theorem Ay(hc:Core c σ a.tmps w M ν){x:Operand}{i:Nat}(ho:o.op= .extract x i){K:cN α}{vs:List ax}{v:ax}(hx:σ.ρ x= .Mp vs)(hi:vs[i]? =some v)
  (h:K v [] []=some r) (hn:cr c σ a o w M ν K r next):o.wp P a w next Q:=by
 have hv:=hc.ev x
 rw[hx]at hv
 simp only[VR]at hv
 obtain⟨us,hu,G9⟩:=hv
 obtain⟨u,Nf,U1⟩:=G9.get hi
 exact aq (tK ho hu Nf) (hn _ _ _ _ _ M ν h (.refl hc.mem) U1)
theorem Core.PV(hc:Core c σ a.tmps w M ν): ∀xs:List Operand,dF w M σ.H ν (xs.map σ.ρ) (xs.map a.eval)
 |[]=>by simp[dF]
 |x::xs=>by simp only[bz,dF];exact⟨hc.ev x,hc.PV xs⟩
theorem nk: ∀{im:List ax} {vs:List Value} {H:Nat→Option ar} {M:Nat→Prop} {K:List ax→List Nat→dh→Option α},Mem c H w M ν→dF w M H ν im vs→m4 H im K=some r→
  ∃cs rd ups M',K cs rd ups=some r∧Tr c H w M ν (aN H ups) w M' ν∧dF w M' (aN H ups) ν cs vs
 |[],vs,H,M,K,hm,hv,h=>⟨[],[],[],M,h,.refl hm,hv⟩
 |x::xs,[],H,M,K,hm,hv,h=>by simp[dF]at hv
 |x::xs,v::vs,H,M,K,hm,hv,h=>by
  simp only[dF]at hv
  unfold m4 at h
  split at h
  ·rename_i id
   split at h
   ·rename_i τ z hid
    obtain⟨M1,b,ht,hb,cy,hM,dL,jo,eJ⟩:=Tr.fix hm hid
    obtain⟨cs,rd,ups,M2,hK,Cs,J4⟩:=nk ht.mem (dF.aK ht.aK ht.goes hv.2) h
    refine⟨_,_,_,M2,hK,ht.trans Cs,?_⟩
    have h1:VR w M1 (au H id (some .gone)) ν (.iP τ z) v:=by
     have Ak:=hv.1
     simp only[VR]at Ak ⊢
     obtain⟨e,he,dR⟩:=Ak
     rw[hid]at he;cases he
     simp only[AR]at dR
     obtain⟨_,b',bA,Ak⟩:=dR
     rw[hb]at bA;cases bA
     exact⟨b,0,Ak,cy,hM,dL,jo,eJ⟩
    simp only[dF]
    exact⟨VR.aK Cs.aK Cs.goes h1,J4⟩
   ·cases h
  ·obtain⟨cs,rd,ups,M2,hK,Cs,J4⟩:=nk hm hv.2 h
   refine⟨_,_,_,M2,hK,Cs,?_⟩
   simp only[dF]
   exact⟨VR.aK Cs.aK Cs.goes hv.1,J4⟩
theorem yS(hc:Core c σ a.tmps w M ν){f:FuncId}{first iQ:Array Operand}(ho:o.op= .makeFunc (.func f) first iQ){K:cN α}
  (h:cond first.isEmpty (m4 σ.H (iQ.toList.map σ.ρ) λcs rd ups=>K (.yC f cs) rd ups) none=some r) (hn:cr c σ a o w M ν K r next):o.wp P a w next Q:=by
 obtain⟨hf,h⟩:=aG h
 obtain⟨cs,rd,ups,M',hK,ht,hv⟩:=nk hc.mem (hc.PV _) h
 refine aq (ss ho (by simpa using hf)) (hn _ _ _ _ _ M' ν hK ht ?_)
 simp only[VR]
 exact⟨iQ.toList.map a.eval,by congr 1;apply dt;simp,hv⟩
theorem Az(hE:EnvTy P E)(hc:Core c σ a.tmps w M ν){s d:TypeId}{x:Operand}(ho:o.op= .convert s d x){K:cN α}{τ:Ty}{k:IntKind}(hs:E.ty s=some τ)(hd:E.ty d=some (.int k))
  (h:mE (σ.ρ x) (λ_ n=>K (.val (.int k) (W k n)) [] [])=some r) (hn:cr c σ a o w M ν K r next):o.wp P a w next Q:=by
 obtain⟨k',n,hx,h⟩:=fO h
 have hv:=hc.ev x
 rw[hx]at hv
 refine aq (tL ho (hE.ty s τ hs).isSome (hE.ty d _ hd).int hv.int) (hn _ _ _ _ _ M ν h (.refl hc.mem) ?_)
 rw[so];exact .mkInt k _
end VM
end
