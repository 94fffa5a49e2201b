/- A part of the proof of BookTurned of layer 18: a machine that reads a function of the program as an equation between values. -/
import Derived.Test.YthkjjlcblhbifaaGreatVm1
import Derived.Great.BuildSlice
import Derived.Laws.Tables
set_option linter.all false
open List renaming length→ℓ, getD→γ
section
namespace VM
open Go
theorem lf{α:Type}{r:α}: ∀{τ:Ty} {x:τ.den} {n:Nat} {m:(υ:Ty)→υ.den→(υ.den→Option α)→Option α} {k:τ.den→Option α},fZ τ x n m k=some r→
  ∃υ y o k',DR τ x n υ y o∧m υ y k'=some r∧ ∀z r',k' z=some r'→ ∃x',k x'=some r'∧DR τ x' n υ z o∧
   ∀(w:World) (M:Nat→Prop) cs cs',Rd w M τ cs x→Rd w M υ cs' z→Rd w M τ (eQ cs o cs') x'
 | .pair a b,x,0,m,k,h=>by
  refine⟨a,x.1,0,_,.here x,h,λz r' hz=>⟨(z,x.2),hz,.here (a:=a) (b:=b) (z,x.2),λw M cs cs' hr ed=> ?_⟩⟩
  simp only[Rd]at hr ⊢
  obtain⟨c1,c2,rfl,h1,h2⟩:=hr
  refine⟨cs',c2,?_,ed,h2⟩
  rw[Be (by rw[ed.length,h1.length];omega)]
  congr 1
  unfold eQ
  rw[fX,ed.length,←h1.length];simp
 | .pair a b,x,n+1,m,k,h=>by
  obtain⟨υ,y,o,k',hf,hm,hk⟩:=lf (τ:=b) (x:=x.2) (n:=n) (m:=m) (k:=λz=>k (x.1,z)) h
  refine⟨υ,y,_,k',.there x hf,hm,λz r' hz=> ?_⟩
  obtain⟨x',o4,zP,kD⟩:=hk z r' hz
  refine⟨(x.1,x'),o4,.there (a:=a) (b:=b) (x.1,x') zP,λw M cs cs' hr ed=> ?_⟩
  simp only[Rd]at hr ⊢
  obtain⟨c1,c2,rfl,h1,h2⟩:=hr
  refine⟨c1,_,?_,h1,kD w M c2 cs' h2 ed⟩
  rw[←h1.length,yL]
 | .int _,_,_,_,_,h| .bool,_,_,_,_,h| .str,_,_,_,_,h| .slice _,_,_,_,_,h| .unit,_,_,_,_,h| .arr _ _,_,_,_,_,h=>by simp[fZ]at h
def pI(w:World)(M:Nat→Prop)(e:Ty)(cs:List Value)(l:List e.den):Prop:=
 ∀i (h:i<l.length),Rd w M e ((cs.drop (i*e.size)).take e.size) l[i]
theorem eE{i n s:Nat}(h:i<n):i*s+s≤n*s:=by
 have:(i+1)*s≤n*s:=kB _ h
 rw[eJ,kT]at this;exact this
theorem pI.set{w:World}{M:Nat→Prop}{e:Ty}{cs:List Value}{l:List e.den}(h:pI w M e cs l)(hl:l.length*e.size≤cs.length){i:Nat}(hi:i<l.length){cs':List Value}{y:e.den}(hr:Rd w M e cs' y):
  pI w M e (eQ cs (i*e.size) cs') (l.set i y):=by
 have hlen:=hr.length
 intro j hj
 rw[bU]at hj
 have h1:=eE (s:=e.size) hi
 have h2:=eE (s:=e.size) hj
 by_cases qw:j=i
 ·subst qw
  have:=aka (a:=cs) (o:=j*e.size) (new:=cs') ω
  rw[hlen]at this
  rw[this,List.getElem_set_self];exact hr
 ·rw[FE (by
   rcases Nat.lt_or_gt_of_ne qw with eU|eU
   ·have:=eE (s:=e.size) eU;left;omega
   ·have:=eE (s:=e.size) eU;right;omega) ω,List.getElem_set_ne (fk qw)]
  exact h j hj
theorem pI.append{w:World}{M:Nat→Prop}{e:Ty}{c1 c2:List Value}{l1 l2:List e.den}(h1:pI w M e c1 l1)(hl:c1.length=l1.length*e.size)(h2:pI w M e c2 l2):pI w M e (c1++c2) (l1++l2):=by
 intro i hi
 by_cases eU:i<l1.length
 ·have:=eE (s:=e.size) eU
  rw[xc ω,yI (by rw[ec];omega),AJ eU]
  exact h1 i eU
 ·rw[aS]at hi
  obtain⟨k,rfl⟩: ∃k,i=l1.length+k:=⟨i-l1.length,ω⟩
  rw[eJ,←hl,←iJ,mz rfl,Gh ω]
  simp only[AL]
  exact h2 k ω
theorem pI.take{w:World}{M:Nat→Prop}{e:Ty}{cs:List Value}{l:List e.den}(h:pI w M e cs l){n:Nat}(hn:l.length*e.size≤n):pI w M e (cs.take n) l:=by
 intro i hi
 have:=eE (s:=e.size) hi
 rw[rT,rU,iu ω]
 exact h i hi
theorem pI.more{w:World}{M:Nat→Prop}{e:Ty}{cs cs':List Value}{l:List e.den}(h:pI w M e cs l)(hl:l.length*e.size≤cs.length):pI w M e (cs++cs') l:=by
 intro i hi
 have:=eE (s:=e.size) hi
 rw[xc ω,yI (by rw[ec];omega)]
 exact h i hi
theorem pI.ch{w w':World}{M M':Nat→Prop}(k:fP w M w' M'){e:Ty}{cs:List Value}{l:List e.den}(h:pI w M e cs l):pI w' M' e cs l:=λi hi=>(h i hi).ch k
theorem Rd.arr{w:World}{M:Nat→Prop}{n:Nat}{e:Ty}{cs:List Value}{x:(Ty.arr n e).den}:Rd w M (.arr n e) cs x↔ℓ x=n∧cs.length=n*e.size∧pI w M e cs x:=by
 constructor
 ·intro h
  have hl:=h.length
  have h':=h
  simp only[Rd]at h'
  refine⟨h'.1,hl,λi hi=> ?_⟩
  have:=h.idx (i:=i) ω
  rw[lM x i e.zero hi]at this
  exact this
 ·rintro⟨hn,hl,hr⟩
  simp only[Rd]
  refine⟨hn,(List.range n).map λi=>(cs.drop (i*e.size)).take e.size,by simp,?_,λi hi oj=> ?_⟩
  ·
   have key: ∀m (l:List Value),l.length=m*e.size→l=((List.range m).map λi=>(l.drop (i*e.size)).take e.size).flatten:=by
    intro m
    induction m with
    |zero=>intro l hl;simpa using hl
    |succ m ih=>
     intro l hl
     have h1:(l.take (m*e.size)).length=m*e.size:=by rw[cj,hl,eJ];omega
     have h2:=ih (l.take (m*e.size)) h1
     rw[Gw,dr,List.flatten_append]
     have h3:((List.range m).map λi=>(l.drop (i*e.size)).take e.size)=(List.range m).map λi=>((l.take (m*e.size)).drop (i*e.size)).take e.size:=by
      apply pU
      intro i hi
      have:=eE (s:=e.size) (rV.1 hi)
      rw[rT,rU,iu ω]
     rw[h3,←h2]
     simp only[ca,gU,AU,List.flatten_nil,cA]
     rw[iG (l:=l.drop (m*e.size)) (by rw[ec,hl,eJ];omega),gT]
   exact key n cs hl
  ·simp only[List.getElem_map,Gr]
   exact hr i hi
theorem p5{α:Type}{r:α}{υ:Ty}{y:υ.den}: ∀{p:List Step} {τ:Ty} {x:τ.den} {k:τ.den→Option α},wQ υ y p τ x k=some r→
  ∃z,k z=some r∧JB p τ=υ∧(zo p τ→cF p τ+υ.size≤τ.size)∧ ∀(w:World) (M:Nat→Prop) cs cs',zo p τ→Rd w M τ cs x→Rd w M υ cs' y→Rd w M τ (eQ cs (cF p τ) cs') z
 |[],τ,x,k,h=>by
  obtain⟨e,h⟩:=bA (h:cR υ τ y k=some r)
  subst e
  refine⟨y,h,rfl,λ_=>by simp[cF],λw M cs cs' _ hr ed=> ?_⟩
  unfold eQ
  rw[show cF [] υ=0 from rfl,fX,ed.length,←hr.length]
  simpa using ed
 | .gM n::p,τ,x,k,h=>by
  obtain⟨υ',y',o,k',hf,hm,hk⟩:=lf (h:fZ τ x n _ k=some r)
  obtain⟨z',AA,ht,Jm,kD⟩:=p5 (p:=p) (τ:=υ') (x:=y') (k:=k') hm
  obtain⟨x',o4,zP,Vv⟩:=hk z' r AA
  obtain⟨h1,h2⟩:=hf.eq
  subst h1 h2
  refine⟨x',o4,ht,λhi=>by have:=hf.bound;have:=Jm hi;simp only[cF];omega,λw M cs cs' hi hr ed=> ?_⟩
  have Jm:=Jm hi
  have h3:=kD w M _ cs' hi (hf.rd hr) ed
  have h4:=Vv w M cs _ hr h3
  have hb:=hf.bound
  have hlc:=hr.length
  have hl2:=ed.length
  have hl3:=h3.length
  have ke:cF p (tb τ n)+cs'.length≤((cs.drop (gy τ n)).take (tb τ n).size).length:=by
   rw[cj,ec];omega
  have:eQ cs (gy τ n) (eQ ((cs.drop (gy τ n)).take (tb τ n).size) (cF p (tb τ n)) cs')=eQ cs (gy τ n+cF p (tb τ n)) cs':=by
   have e1:cs=cs.take (gy τ n)++(((cs.drop (gy τ n)).take (tb τ n).size)++cs.drop (gy τ n+(tb τ n).size)):=by
    rw[←iJ,gT,gT]
   have eU:(cs.take (gy τ n)).length=gy τ n:=by rw[cj];omega
   conv=>rhs;rw[e1]
   rw[show gy τ n+cF p (tb τ n)=(cs.take (gy τ n)).length+cF p (tb τ n)from by rw[eU],yL,Be ke]
   generalize eQ ((cs.drop (gy τ n)).take (tb τ n).size) (cF p (tb τ n)) cs'=m at hl3 ⊢
   unfold eQ
   rw[hl3,bF]
  simp only[cF]
  rw[←this]
  exact h4
 | .idx i::p,τ,x,k,h=>by
  cases τ with
  |arr n e=>
   obtain⟨z',AA,ht,Jm,kD⟩:=p5 (p:=p) (τ:=e) (x:=γ x i e.zero) (k:=λz=>k (List.set x i z)) h
   refine⟨_,AA,ht,λhi=>by
    obtain⟨⟨n',e',he,ke⟩,oj⟩:=hi
    cases he
    have:=Jm oj
    have hm:=eE (s:=e.size) ke
    simp only[cF,elT,Ty.size];omega,λw M cs cs' hi hr ed=> ?_⟩
   obtain⟨⟨n',e',he,ke⟩,oj⟩:=hi
   cases he
   have h3:=kD w M _ cs' oj (hr.idx ke) ed
   obtain⟨hn,hlc,Ki⟩:=Rd.arr.1 hr
   have hm:=eE (s:=e.size) ke
   have h4:=Ki.set (by rw[hlc,hn];exact aH _) (i:=i) ω h3
   have hl2:=ed.length
   have hl3:=h3.length
   have hch:((cs.drop (i*e.size)).take e.size).length=e.size:=by rw[cj,ec];omega
   have Jm:=Jm oj
   have avh:cF p e+cs'.length≤((cs.drop (i*e.size)).take e.size).length:=ω
   have:eQ cs (i*e.size) (eQ ((cs.drop (i*e.size)).take e.size) (cF p e) cs')=eQ cs (i*e.size+cF p e) cs':=by
    have e1:cs=cs.take (i*e.size)++(((cs.drop (i*e.size)).take e.size)++cs.drop (i*e.size+e.size)):=by
     rw[←iJ,gT,gT]
    have eU:(cs.take (i*e.size)).length=i*e.size:=by rw[cj];omega
    conv=>rhs;rw[e1]
    rw[show i*e.size+cF p e=(cs.take (i*e.size)).length+cF p e from by rw[eU],yL,Be avh]
    generalize eQ ((cs.drop (i*e.size)).take e.size) (cF p e) cs'=m at hl3 ⊢
    unfold eQ
    rw[hl3,bF]
   simp only[cF,elT]
   rw[←this]
   refine Rd.arr.2 ⟨by rw[bU];exact hn,?_,h4⟩
   rw[eM (by rw[hl3];omega)];exact hlc
  |_=>simp[wQ,FB]at h
theorem Rd.aoZ{w:World}{M:Nat→Prop}{τ υ:Ty}{cs:List Value}{x:τ.den}(e:τ=υ)(h:Rd w M τ cs x):Rd w M υ cs (e▸x):=by subst e;exact h
theorem GR{α:Type}{r:α}{e:Ty}{l:List e.den}: ∀{τ:Ty} {n:Nat} {z:τ.den} {k:τ.den→Option α},fZ τ z n (fun υ' _ k'=>cR (.slice e) υ' l k') k=some r→
  ∃x,k x=some r∧fZ τ z n (fun υ' _ k'=>cR (.slice e) υ' l k') some=some x∧vv τ x n (fun υ y=>cR υ (.slice e) y some)=some l∧ ∀l':List e.den,∃z0,
   (∀(β:Type) (k':τ.den→Option β),fZ τ x n (fun υ' _ k'=>cR (.slice e) υ' l' k') k'=k' z0)∧ ∀(β:Type) (k':τ.den→Option β),fZ τ z n (fun υ' _ k'=>cR (.slice e) υ' l' k') k'=k' z0
 | .pair a b,0,z,k,h=>by
  have h1:cR (.slice e) a l (λw=>k (w,z.2))=some r:=h
  obtain⟨e1,h2⟩:=bA h1
  clear h1 h
  subst e1
  exact⟨_,h2,by simp[fZ,cR],by simp[vv,cR],λl'=>⟨(l',z.2),λβ k'=>by simp[fZ,cR],λβ k'=>by simp[fZ,cR]⟩⟩
 | .pair a b,n+1,z,k,h=>by
  obtain⟨x,h1,h0,h2,h3⟩:=GR (τ:=b) (n:=n) (z:=z.2) (k:=λw=>k (z.1,w)) h
  refine⟨(z.1,x),h1,?_,h2,λl'=> ?_⟩
  ·obtain⟨z0,h4,h5⟩:=h3 l
   have h6:=h5 _ some
   rw[h0]at h6
   cases h6
   exact h5 _ λw=>some (z.1,w)
  obtain⟨z0,h4,h5⟩:=h3 l'
  exact⟨(z.1,z0),λβ k'=>h4 β λw=>k' (z.1,w),λβ k'=>h5 β λw=>k' (z.1,w)⟩
 | .int _,_,_,_,h| .bool,_,_,_,h| .str,_,_,_,h| .slice _,_,_,_,h| .unit,_,_,_,h| .arr _ _,_,_,_,h=>by simp[fZ]at h
end VM
end
section
namespace VM
open Go
variable{P:Program}{E:Env}{o:Oper}{a:Act}{w:World}{M:Nat→Prop}{ν:Nat→Value}{σ:St}{c:Ctx}{α:Type}{r:α}{next:Act→World→Prop}{Q:Exit→Act→World→Prop}
theorem bc{v:Value}{w':World}(h:(execOp a.eval o).run P w= .ok (.value v) w')(hn:next (a.put o.dst v) w'):o.wp P a w next Q:=by
 unfold Oper.wp Oper.upon;rw[h];exact hn
theorem o7{w':World}(h:(execOp a.eval o).run P w= .ok .skip w')(hn:next (a.put o.dst undef) w'):o.wp P a w next Q:=by
 unfold Oper.wp Oper.upon;rw[h];exact hn
def fJ(c:Ctx)(σ:St)(a:Act)(o:Oper)(w:World)(M:Nat→Prop)(ν:Nat→Value)(K:gS α)(r:α)(next:Act→World→Prop):Prop:=
 ∀v rd ups v' w' M' ν',K v rd ups=some r→Tr c σ.H w M ν (cU σ.H ups) w' M' ν'→VR w' M' (cU σ.H ups) ν' v v'→next (a.put o.dst v') w'
theorem Core.ev(h:Core c σ a.tmps w M ν)(x:Operand):VR w M σ.H ν (σ.ρ x) (a.eval x):=h.op a.defers x
theorem oq{x:bG}{k:IntKind→Int→Option α}(h:wR x k=some r): ∃(i:IntKind) (n:Int),x= .val (.int i) n∧k i n=some r:=by
 unfold wR at h
 split at h
 ·exact⟨_,_,rfl,h⟩
 ·cases h
theorem VR.int{H:Nat→Option br}{k:IntKind}{n:Int}{v:Value}(h:VR w M H ν (.val (.int k) n) v):v= .int k n:=by
 simp only[VR,V,Ty.isAgg,jN,fI,Rd,fW,eL]at h;exact h
theorem VR.bool{H:Nat→Option br}{b:Bool}{v:Value}(h:VR w M H ν (.val .bool b) v):v= .bool b:=by
 simp only[VR,V,Ty.isAgg,jN,fI,Rd,fW,eL]at h;exact h
theorem VR.str{H:Nat→Option br}{b:ByteArray}{v:Value}(h:VR w M H ν (.val .str b) v):v= .string b:=by
 simp only[VR,V,Ty.isAgg,jN,fI,Rd,fW,eL]at h;exact h
theorem VR.mkInt{H:Nat→Option br}(k:IntKind)(n:Int):VR w M H ν (.val (.int k) n) (.int k n):=by simp[VR,V,Ty.isAgg,Rd]
theorem VR.vA{H:Nat→Option br}(b:Bool):VR w M H ν (.val .bool b) (.bool b):=by simp[VR,V,Ty.isAgg,Rd]
theorem VR.mkStr{H:Nat→Option br}(b:ByteArray):VR w M H ν (.val .str b) (.string b):=by simp[VR,V,Ty.isAgg,Rd]
theorem TZ(hc:Core c σ a.tmps w M ν){x:Operand}(ho:o.op= .move x∨o.op= .assign x){K:gS α}(h:K (σ.ρ x) [] []=some r)(hn:fJ c σ a o w M ν K r next):o.wp P a w next Q:=by
 have hr:(execOp a.eval o).run P w= .ok (.value (a.eval x)) w:=by
  rcases ho with ho|ho
  ·simp[execOp,ho]
  ·simp[execOp,ho]
 exact bc hr (hn _ _ _ _ _ _ _ h (.refl hc.mem) (hc.ev x))
theorem ab7(hc:Core c σ a.tmps w M ν){x y z:Operand}(ho:o.op= .pick x y z){K:gS α}{t:Bool}(hx:σ.ρ x= .val .bool t)(h:cond t (K (σ.ρ y) [] []) (K (σ.ρ z) [] [])=some r)
  (hn:fJ c σ a o w M ν K r next):o.wp P a w next Q:=by
 have hv:=hc.ev x
 rw[hx]at hv
 refine bc (Oh ho hv.bool) ?_
 cases t
 ·exact hn _ _ _ _ _ _ _ h (.refl hc.mem) (hc.ev z)
 ·exact hn _ _ _ _ _ _ _ h (.refl hc.mem) (hc.ev y)
theorem mD{H:Nat→Option br}{id:Nat}{e:br}{K:Option α}(h:se H id e K=some r):H id=none∧K=some r:=by
 unfold se at h
 split at h
 ·rename_i h';exact⟨h',h⟩
 ·cases h
theorem VR.aiG{H:Nat→Option br}{id:Nat}{τ:Ty}{x:τ.den}{b:Nat}(bl:H id=some (.obj τ x))(hν:ν id= .pointer (some ⟨b,0,none⟩)):VR w M H ν (.jf id []) (.pointer (some ⟨b,0,none⟩)):=by
 simp only[VR]
 exact⟨_,bl,trivial,b,hν,rfl⟩
theorem VR.Yg{H:Nat→Option br}{id:Nat}{τ:Ty}{x:τ.den}{q:List Step}{j b:Nat}(bl:H id=some (.gk τ x q j))(hν:ν id= .pointer (some ⟨b,0,none⟩)):VR w M H ν (.jf id []) (.pointer (some ⟨b,0,none⟩)):=by
 simp only[VR]
 exact⟨_,bl,trivial,b,hν,rfl⟩
theorem fK(τ:Ty):(cr τ τ.cL).cells.toList=τ.cL:=JA (Rd.zero default (λ_=>False) τ)
theorem Oi: ∀{τ:Ty} {n:Nat} {a:Ty},zj τ n=some a→ ∃l m,τ.cL=l++(a.cL++m)∧l.length=gy τ n:=by
 intro τ
 induction τ with
 |pair a b _ Yf=>
  intro n c h
  cases n with
  |zero=>cases h;exact⟨[],b.cL,rfl,rfl⟩
  |succ n=>
   obtain⟨l,m,h1,h2⟩:=Yf (n:=n) (a:=c) h
   refine⟨a.cL++l,m,by simp only[Ty.cL];rw[h1,bF],?_⟩
   rw[aS,h2,(Rd.zero default (λ_=>False) a).length];rfl
 |_=>intro n c h;simp[zj]at h
theorem Bk: ∀{p:List Step} {τ υ:Ty},fA p τ υ=true→ ∃l m,τ.cL=l++(υ.cL++m)∧l.length=cF p τ
 |[],τ,υ,h=>by
  have h:=bD h
  subst h
  exact⟨[],[],by simp,rfl⟩
 | .gM n::p,τ,υ,h=>by
  unfold fA at h
  split at h
  ·rename_i a ha
   obtain⟨l,m,h1,h2⟩:=Oi ha
   obtain⟨l',m',h3,h4⟩:=Bk h
   obtain⟨_,_,hf⟩:=kZ ha τ.zero
   have:=hf.eq.1
   subst this
   refine⟨l++l',m'++m,by rw[h1,h3];simp,?_⟩
   rw[aS,h2,h4];rfl
  ·cases h
 | .idx _::_,_,_,h=>by simp[fA]at h
theorem CH{p:List Step}{τ e:Ty}(h:fA p τ (.slice e)=true):τ.cL[cF p τ]? =some (.slice none 0 0):=by
 obtain⟨l,m,h1,h2⟩:=Bk h
 rw[h1,pC ω,h2,uH];rfl
theorem cG{b:Bool}{K:Option α}(h:cond b K none=some r):b=true∧K=some r:=by
 cases b
 ·cases h
 ·exact⟨rfl,h⟩
theorem LP{τ:Ty}{q:List Step}{e:Ty}(h:lkT E τ=some (q,e)):fA q τ (.slice e)=true:=by
 unfold lkT at h
 split at h
 ·rename_i υ q' e' _ _
  cases hd:decide (υ=τ)<;>rw[hd]at h
  ·cases h
  ·simp only[aj]at h
   cases hp:fA q' τ (.slice e')<;>rw[hp]at h
   ·cases h
   ·cases h;exact hp
 ·cases h
theorem sm{τ:Ty}{id:Nat}{q:List Step}{e:Ty}(h:Jz E τ id=some (q,e)):fA q τ (.slice e)=true:=by
 unfold Jz at h
 split at h
 ·exact LP (cG h).2
 ·cases h
theorem GU{H:Nat→Option br}{id:Nat}{τ:Ty}{x:τ.den}{q:List Step}{e:Ty}{K:gS α}(h:EZ H id τ x q e K=some r):H id=none∧H (id+1)=none∧K (.jf id []) [id,id+1] [(id,some (.gk τ x q (id+1))),(id+1,some (.own e []))]=some r:=by
 unfold EZ at h
 obtain⟨h1,h⟩:=mD h
 obtain⟨h2,h⟩:=mD h
 exact⟨h1,h2,h⟩
theorem Vx{H:Nat→Option br}{i j:Nat}{u v:Option br}(h:i≠j):cm (cm H i u) j v=cm (cm H j v) i u:=by
 funext k
 by_cases hi:k=i
 ·subst hi;rw[az _ _ h,ay,ay]
 ·by_cases hj:k=j
  ·subst hj;rw[ay,az _ _ hi,ay]
  ·rw[az _ _ hj,az _ _ hi,az _ _ hi,az _ _ hj]
theorem zS{H:Nat→Option br}{i:Nat}{u v:Option br}:cm (cm H i u) i v=cm H i v:=by
 funext k
 by_cases hi:k=i
 ·subst hi;rw[ay,ay]
 ·rw[az _ _ hi,az _ _ hi,az _ _ hi]
theorem Tr.Yh{H:Nat→Option br}(h:Mem c H w M ν){id k:Nat}(hk:H k=none){τ:Ty}{x:τ.den}(bl:H id=some (.obj τ x)){b:Nat}{cs:Array Value}{t:TypeId}(hb:ν id= .pointer (some ⟨b,0,none⟩))(hg:w.heap[b]? =some (.cells cs t (0,0)))
  {q:List Step} {e:Ty} (hq:fA q τ (.slice e)=true) {ad:Option Addr} (hz:cs.toList[cF q τ]? =some (.slice ad 0 0)):
  Tr c H w M ν (cU H [(id,some (.gk τ x q k)),(k,some (.own e []))]) w M (updν ν k (.slice ad 0 0)):=by
 have kN:k≠id:=λe=>by rw[e,bl]at hk;cases hk
 have h2:=Tr.nothing h hk e ad
 have hd2:cm H k (some (.own e [])) id=some (.obj τ x):=by rw[az _ _ (fk kN)];exact bl
 have hν:updν ν k (.slice ad 0 0) id= .pointer (some ⟨b,0,none⟩):=by unfold updν;rw[ag (fk kN)];exact hb
 have hν1:updν ν k (.slice ad 0 0) k= .slice ad 0 0:=by simp[updν]
 have he:=h2.mem.jQ id _ hd2
 simp only[ER]at he
 obtain⟨b',cs',t',fb,hg',hM,kD⟩:=he
 rw[hν]at fb;cases fb
 rw[hg]at hg';cases hg'
 have h3:=Tr.JD h2.mem hd2 trivial (e':= .gk τ x q k) trivial rfl (λ_ _=>by simp) (by
   rw[hν];simp only[ER]
   exact⟨_,cs,t,cs.toList,.slice ad 0 0,rfl,hg,hM,kD,(xB hz).symm,rfl,e,hq⟩)
  (fun τ' x' p' j' hl=>by
   cases hl
   refine⟨by rw[ay];simp,_,hν,?_⟩
   rw[hν1,cell_of hg,←iH];exact hz)
 rw[Vx (i:=k) (j:=id) kN]at h3
 exact h2.trans h3
theorem Tr.EZ{H:Nat→Option br}(h:Mem c H w M ν){id:Nat}(bl:H id=none)(qx:H (id+1)=none)(t:TypeId){τ:Ty}{cs:Array Value}{x:τ.den}(hr:Rd w M τ cs.toList x){q:List Step}{e:Ty}(hq:fA q τ (.slice e)=true){ad:Option Addr}
  (hz:cs.toList[cF q τ]? =some (.slice ad 0 0)):
  ∃M' ν',Tr c H w M ν (cU H [(id,some (.gk τ x q (id+1))),(id+1,some (.own e []))]) (w.alloc (.cells cs t)) M' ν'∧ν' id= .pointer (some ⟨w.heap.size,0,none⟩):=by
 have h1:=Tr.var h bl t hr
 have h2:=Tr.Yh h1.mem (id:=id) (k:=id+1) (by rw[az _ _ ω];exact qx) (ay _ _ _) (by simp[updν]) (GK w _) hq hz
 have e1:cU (cm H id (some (.obj τ x))) [(id,some (.gk τ x q (id+1))),(id+1,some (.own e []))]=cU H [(id,some (.gk τ x q (id+1))),(id+1,some (.own e []))]:=by
  show cm (cm (cm H id _) id _) (id+1) _=cm (cm H id _) (id+1) _
  rw[zS]
 rw[e1]at h2
 exact⟨_,_,h1.trans h2,by simp[updν]⟩
theorem Yi(hE:EnvTy P E)(hc:Core c σ a.tmps w M ν){t:TypeId}(ho:o.op= .alloc t){K:gS α}{τ:Ty}(ht:E.ty t=some τ){id:Nat}
  (h:(match Jz E τ id with
   |some (q,e)=>EZ σ.H id τ τ.zero q e K
   |none=>se σ.H id (.obj τ τ.zero) (K (.jf id []) [id] [(id,some (.obj τ τ.zero))]))=some r) (hn:fJ c σ a o w M ν K r next):o.wp P a w next Q:=by
 obtain⟨i,hi,hs,hz,_⟩:=(hE.ty t τ ht).base
 have hr:Rd w M τ (cr τ τ.cL).cells.toList τ.zero:=by rw[fK];exact Rd.zero w M τ
 split at h
 ·rename_i q e qQ
  obtain⟨bl,qx,h⟩:=GU h
  obtain⟨M',ν',gw,hν⟩:=Tr.EZ hc.mem bl qx t hr (sm qQ) (by rw[fK];exact CH (sm qQ))
  refine bc (Bi ho hi hz w) (hn _ _ _ _ _ M' ν' h gw ?_)
  exact VR.Yg (by show cm _ (id+1) _ id=_;rw[az _ _ ω,ay]) hν
 ·obtain⟨bl,h⟩:=mD h
  refine bc (Bi ho hi hz w) (hn _ _ _ _ _ _ _ h (Tr.var hc.mem bl t hr) (VR.aiG (ay _ _ _) (by simp[updν])))
theorem T0(hE:EnvTy P E)(hc:Core c σ a.tmps w M ν){t:TypeId}{x:Operand}(ho:o.op= .box t x){K:gS α}{τ:Ty}{id:Nat}
  (h:nc true (σ.ρ x) σ.H τ (λy rd ups=>se σ.H id (.obj τ y) (K (.jf id []) (id::rd) (ups++[(id,some (.obj τ y))])))=some r) (hn:fJ c σ a o w M ν K r next):o.wp P a w next Q:=by
 obtain⟨y,rd,ups,M',h,gw,hV,hz,_⟩:=ld (.refl _) hc.mem (hc.ev x) h
 obtain⟨bl,h⟩:=mD h
 have akd:cU σ.H ups id=none:=hz.none bl
 have xG:=gw.trans (Tr.var gw.mem akd t hV.cells)
 refine bc (GM ho w) (hn _ _ _ _ _ (λb=>M' b∨b=w.heap.size) (updν ν id (.pointer (some ⟨w.heap.size,0,none⟩))) h ?_ ?_)
 ·rw[eY];exact xG
 ·rw[eY];exact VR.aiG (ay _ _ _) (by simp[updν])
theorem ake(hE:EnvTy P E)(hc:Core c σ a.tmps w M ν){t:TypeId}{x:Operand}(ho:o.op= .box t x){K:gS α}{τ:Ty}{id:Nat}
  (h:(match Jz E τ id,σ.ρ x with
   |some ([.gM m],e),.LG υ y n=>cond (Nat.beq m n) (cR υ τ y λy=>EZ σ.H id τ y [.gM m] e K) (nc true (σ.ρ x) σ.H τ (λy rd ups=>se σ.H id (.obj τ y) (K (.jf id []) (id::rd) (ups++[(id,some (.obj τ y))]))))
   |_,_=>nc true (σ.ρ x) σ.H τ (λy rd ups=>se σ.H id (.obj τ y) (K (.jf id []) (id::rd) (ups++[(id,some (.obj τ y))]))))=some r) (hn:fJ c σ a o w M ν K r next):o.wp P a w next Q:=by
 split at h
 ·rename_i m e υ y n qQ hx
  cases hb:Nat.beq m n
  ·rw[hb]at h
   exact T0 hE hc ho h hn
  ·rw[hb]at h
   have CI:=fF hb
   subst CI
   simp only[aj]at h
   obtain⟨e1,h⟩:=bA h
   subst e1
   obtain⟨bl,qx,h⟩:=GU h
   have hv:=hc.ev x
   rw[hx]at hv
   simp only[VR]at hv
   obtain⟨hV,cs,ad,hva,hz⟩:=hv
   have uh:(a.eval x).cells.toList=cs.toList:=by rw[hva];rfl
   obtain⟨M',ν',gw,hν⟩:=Tr.EZ hc.mem bl qx t hV.cells (sm qQ) (ad:=ad) (by rw[uh];simpa [cF]using hz)
   refine bc (GM ho w) (hn _ _ _ _ _ M' ν' h gw ?_)
   exact VR.Yg (by show cm _ (id+1) _ id=_;rw[az _ _ ω,ay]) hν
 ·exact T0 hE hc ho h hn
theorem vB{i:Int}{n:Nat}(h:bg i n=true):0≤i∧i<(n:Int):=by rw[X4]at h;simpa using h
theorem nE{b:Bool}{K:Option α}(h:cond b none K=some r):b=false∧K=some r:=by
 cases b
 ·exact⟨rfl,h⟩
 ·cases h
theorem DV(hm:Mem c σ.H w M ν){x:bG}{u:Value}(hv:VR w M σ.H ν x u){K:(υ:Ty)→υ.den→List Nat→Option α}(h:lY x σ.H K=some r):
  ∃υ y rd,K υ y rd=some r∧ ∃b off cs,u= .pointer (some ⟨b,off,none⟩)∧At w b off cs∧Rd w M υ cs y:=by
 unfold lY at h
 split at h
 ·simp only[VR]at hv
  obtain⟨b,off,rfl,_,_,cs,ha,hr⟩:=hv
  exact⟨_,_,_,h,b,off,cs,rfl,ha,hr⟩
 ·rename_i id p
  simp only[VR]at hv
  obtain⟨e,he,lQ⟩:=hv
  have kO:=hm.jQ id e he
  rw[he]at h
  cases e with
  |obj τ x=>
   obtain⟨υ,y,o',hp,hK⟩:=kY h
   simp only[AR]at lQ
   obtain⟨hi,b,hb,rfl⟩:=lQ
   simp only[ER]at kO
   obtain⟨b',cs,t,fb,hg,_,hr⟩:=kO
   rw[hb]at fb;cases fb
   have:=hp.eq.2
   subst this
   exact⟨υ,y,_,hK,b,_,_,rfl,At.of_block hg _ _,hp.rd hi hr⟩
  |own e l=>
   simp only[AR]at lQ
   obtain⟨i,q,rfl,Bl,hi,b,n,cp,hb,rfl⟩:=lQ
   obtain⟨υ,y,o',hp,hK⟩:=kY h
   simp only[ER]at kO
   rcases kO with⟨rfl,_⟩|⟨b',cs,t,cap,fb,hg,_,T1,hl,FF,hs,hr⟩
   ·simp at Bl
   ·rw[hb]at fb;cases fb
    have:=hp.eq.2
    subst this
    have h1:=hr i Bl
    rw[←lM l i e.zero Bl]at h1
    have h2:=hp.rd hi h1
    have h3:=hp.bound hi
    rw[rT,iJ,rU,iu ω]at h2
    exact⟨υ,y,_,hK,b,_,_,rfl,At.of_block hg _ _,h2⟩
  |pG e l=>
   simp only[AR]at lQ
   obtain⟨i,q,rfl,Bl,hi,b,n,cp,hb,rfl⟩:=lQ
   obtain⟨υ,y,o',hp,hK⟩:=kY h
   simp only[ER]at kO
   have kD:=kO.1
   simp only[Rd,fW,eL]at kD
   obtain⟨a0,cap,ha0,_,hr⟩:=kD
   obtain⟨b',off,rfl,_,_,cs,pH,hrr⟩:=hr i Bl
   rw[hb]at ha0;cases ha0
   have:=hp.eq.2
   subst this
   rw[fX]at pH
   have ao2:Rd w M e cs (γ l i e.zero):=by rw[lM l i e.zero Bl];exact hrr
   have h2:=hp.rd hi ao2
   have h3:=hp.bound hi
   have hlc:=ao2.length
   refine⟨υ,y,_,hK,b,_,_,rfl,?_,h2⟩
   intro j v hj
   rw[mX]at hj
   split at hj
   ·rw[mY]at hj
    have:=pH _ v hj
    rwa [←pW]at this
   ·cases hj
  |gk _ _ _ _=>cases h
  |gone=>cases h
 ·cases h
theorem Mem.linked{H:Nat→Option br}(hm:Mem c H w M ν){id:Nat}{τ:Ty}{x:τ.den}{q:List Step}{j:Nat}(bl:H id=some (.gk τ x q j)):
  ∃b cs t kf e,ν id= .pointer (some ⟨b,0,none⟩)∧w.heap[b]? =some (.cells cs t (0,0))∧M b∧Rd w M τ kf x∧cs.toList=eQ kf (cF q τ) [ν j]∧(ν j).oneCell'=true∧fA q τ (.slice e)=true∧cF q τ<kf.length∧H j≠none:=by
 have kO:=hm.jQ id _ bl
 simp only[ER]at kO
 obtain⟨b,cs,t,kf,u,hb,hg,hM,hr,uh,h1,e,hq⟩:=kO
 obtain⟨hj,b',fb,T2⟩:=hm.gk id _ _ _ _ bl
 rw[hb]at fb;cases fb
 obtain⟨y,o,hp⟩:=uP hq x
 have eU:cF q τ<kf.length:=by
  have:=hp.bound (lN hq).1
  have h2:=hp.eq.2
  have h3:=hr.length
  have:(Ty.slice e).size=1:=rfl
  omega
 have hu:u=ν j:=by
  rw[cell_of hg,←iH,uh,yM eU]at T2
  exact oe T2
 subst hu
 exact⟨b,cs,t,kf,e,hb,hg,hM,hr,uh,h1,hq,eU,hj⟩
theorem vC{H:Nat→Option br}(hm:Mem c H w M ν){id:Nat}{τ:Ty}{x:τ.den}{q:List Step}{j:Nat}(bl:H id=some (.gk τ x q j)){k:τ.den→js→Option α}(h:CD j q τ x H k=some r):
  ∃z ups M',k z ups=some r∧Tr c H w M ν (cU H ups) w M' ν∧Fz H (cU H ups)∧((∃e l,H j=some (.pG e l)∧ups=[])∨ ∃e l,H j=some (.own e l)∧ups=[(j,some (.pG e l))])∧ ∃b cs t,ν id= .pointer (some ⟨b,0,none⟩)∧w.heap[b]? =some (.cells cs t (0,0))∧M' b∧Rd w M' τ cs.toList z:=by
 obtain⟨b,cs,t,kf,e0,hb,hg,hM,hr,uh,h1,hq,eU,hj⟩:=hm.linked bl
 have Sg:=(lN hq).1
 unfold CD at h
 split at h
 ·rename_i e l Bm
  obtain⟨z,hz,DW,Jm,so⟩:=p5 h
  obtain⟨M',gw,hV,hM'⟩:=Tr.freeze hm Bm
  refine⟨z,_,M',hz,gw,λi=> ?_,.inr ⟨e,l,Bm,rfl⟩,b,cs,t,hb,hg,?_,?_⟩
  ·by_cases hi:i=j
   ·subst hi;exact .inr ⟨e,l,Bm,ay _ _ _⟩
   ·exact .inl (az _ _ hi)
  ·refine(hM' b).2 ⟨hM,λhjb=> ?_⟩
   have kN:j≠id:=λe=>by rw[e,bl]at Bm;cases Bm
   exact hm.Bf j id _ _ b kN Bm trivial bl trivial hjb (by rw[hb];rfl)
  ·rw[uh]
   exact so w M' kf [ν j] Sg (hr.ch gw.ch) (V.slice.1 hV)
 ·rename_i e l Bm
  obtain⟨z,hz,DW,Jm,so⟩:=p5 h
  have kO:=hm.jQ j _ Bm
  simp only[ER]at kO
  refine⟨z,_,M,hz,.refl hm,.refl H,.inl ⟨e,l,Bm,rfl⟩,b,cs,t,hb,hg,hM,?_⟩
  rw[uh]
  exact so w M kf [ν j] Sg hr kO.1
 ·cases h
theorem an7{τ υ:Ty}{t:TypeId}(hE:EnvTy P E)(ht:E.ty t=some τ)(h:fA ([]:List Step) υ τ=true):υ=τ:=bD h
theorem Rd.akf{e:Ty}{v:Value}{cs:List Value}{l:List e.den}(h:Rd w M (.slice e) cs l): ∃a n cap,cs=[.slice a n cap]:=by
 simp only[Rd]at h
 obtain⟨a,cap,rfl,_⟩:=h
 exact⟨a,_,cap,rfl⟩
theorem JF{ρ:Operand→Value}{t:TypeId}{x:Operand}(ho:o.op= .load t x){τ:Ty}(h:kX P τ t)(ha:τ.isAgg=false){b off:Nat}{v:Value}(hx:ρ x= .pointer (some ⟨b,off,none⟩))(hc:w.cell? ⟨b,off,none⟩=some v):
  (execOp ρ o).run P w= .ok (.value v) w:=by
 have:(loadVar t ⟨b,off,none⟩).run P w= .ok v w:=by
  simp[loadVar,rE h,ha,load,Sem.run,hc]
 simp[execOp,ho,hx,Instr.loadAt,Instr.sureAddr,this]
theorem Oj(hE:EnvTy P E)(hc:Core c σ a.tmps w M ν){t:TypeId}{x:Operand}(ho:o.op= .load t x){K:gS α}{τ:Ty}(ht:E.ty t=some τ)
  (h:lY (σ.ρ x) σ.H (fun υ y rd=>cR υ τ y λz=>K (.val τ z) rd [])=some r) (hn:fJ c σ a o w M ν K r next):o.wp P a w next Q:=by
 obtain⟨υ,y,rd,h,b,off,cs,hu,pH,hr⟩:=DV hc.mem (hc.ev x) h
 obtain⟨e,h⟩:=bA h
 subst e
 refine bc (xE ho (hE.ty t _ ht) hu pH hr) (hn _ _ _ _ _ _ _ h (.refl hc.mem) ?_)
 simp only[VR]
 exact V.cr hr
theorem T3(hE:EnvTy P E)(hc:Core c σ a.tmps w M ν){t:TypeId}{x:Operand}(ho:o.op= .load t x){K:gS α}{τ:Ty}(ht:E.ty t=some τ)
  (h:uM τ (σ.ρ x) σ.H K=some r) (hn:fJ c σ a o w M ν K r next):o.wp P a w next Q:=by
 unfold uM at h
 simp only at h
 split at h
 ·rename_i id p hx
  split at h
  ·rename_i υ z q j bl
   have hv:=hc.ev x
   rw[hx]at hv
   simp only[VR]at hv
   obtain⟨e1,GV,lQ⟩:=hv
   rw[bl]at GV;cases GV
   simp only[AR]at lQ
   obtain⟨hi,b,hb,hu⟩:=lQ
   obtain⟨b',cs,te,kf,e0,fb,hg,hM,hr,uh,h1,hq,eU,hj⟩:=hc.mem.linked bl
   rw[hb]at fb;cases fb
   cases hp:Jx p q
   ·rw[hp]at h
    cases Jk:zi p q
    ·
     rw[Jk]at h
     simp only[av]at h
     obtain⟨υ',y,o',zp,h⟩:=kY h
     obtain⟨e2,h⟩:=bA h
     subst e2
     have hap:=zp.apart hi hq Jk
     have ho':=zp.eq.2
     subst ho'
     have Jm:=zp.bound hi
     have hlen:=hr.length
     have kD:Rd w M υ' ((cs.toList.drop (cF p υ)).take υ'.size) y:=by
      rw[uh,FE (by simp only[aJ];omega) (by simp only[aJ];omega)]
      exact zp.rd hi hr
     refine bc (xE ho (hE.ty t _ ht) hu (At.of_block hg _ _) kD) (hn _ _ _ _ _ M ν h (.refl hc.mem) ?_)
     simp only[VR]
     exact V.cr kD
    ·
     rw[Jk]at h
     simp only[av,aj]at h
     obtain⟨z',ups,M',h,gw,_,_,b2,T4,t2,vm,Yj,LR,zT⟩:=vC hc.mem bl h
     rw[hb]at vm;cases vm
     rw[hg]at Yj;cases Yj
     obtain⟨υ',y,o',zp,h⟩:=kY h
     obtain⟨e2,h⟩:=bA h
     subst e2
     have ho':=zp.eq.2
     subst ho'
     have kD:=zp.rd hi zT
     refine bc (xE ho (hE.ty t _ ht) hu (At.of_block hg _ _) kD) (hn _ _ _ _ _ M' ν h gw ?_)
     simp only[VR]
     exact V.cr kD
   ·
    rw[hp]at h
    have:=zQ hp
    subst this
    simp only[aj]at h
    obtain⟨hpq,hK⟩:=cG h
    have hτ:τ= .slice e0:=(lN hpq).2.symm.trans (lN hq).2
    subst hτ
    have T2:w.cell? ⟨b,cF p υ,none⟩=some (ν j):=by rw[cell_of hg,←iH,uh,yM eU]
    refine bc (JF ho (hE.ty t _ ht) rfl hu T2) (hn _ _ _ _ _ M ν hK (.refl hc.mem) ?_)
    simp only[VR]
    exact⟨hj,trivial⟩
  ·exact Oj hE hc ho ht h hn
 ·exact Oj hE hc ho ht h hn
theorem zU{τ:Ty}{n:Nat}(h:vz τ n=true): ∃e,fA [.gM n] τ (.slice e)=true∧zj τ n=some (.slice e):=by
 unfold vz at h
 split at h
 ·rename_i e he
  exact⟨e,by simp[fA,he],he⟩
 ·cases h
theorem rF{τ:Ty}{n:Nat}{e:Ty}(h:fA [.gM n] τ (.slice e)=true):vz τ n=true:=by
 unfold fA at h
 unfold vz
 split at h
 ·rename_i a ha
  rw[ha]
  rw[show a= .slice e from bD h]
 ·cases h
theorem GW{τ:Ty}{n:Nat}(h:vz τ n=true):τ.isAgg=true:=by
 cases τ<;>first|rfl|(simp[vz,zj]at h)
theorem Yk(hE:EnvTy P E)(hc:Core c σ a.tmps w M ν){t:TypeId}{x:Operand}(ho:o.op= .load t x){K:gS α}{τ:Ty}(ht:E.ty t=some τ)
  (h:Bc E τ (σ.ρ x) σ.H K=some r) (hn:fJ c σ a o w M ν K r next):o.wp P a w next Q:=by
 unfold Bc at h
 split at h
 ·rename_i id Vy hx
  split at h
  ·rename_i υ z n j bl
   obtain⟨e,h⟩:=bA h
   subst e
   obtain⟨b,cs,te,kf,e0,hb,hg,hM,hr,uh,h1,hq,eU,hj⟩:=hc.mem.linked bl
   have hv:=hc.ev x
   rw[hx]at hv
   simp only[VR]at hv
   obtain⟨e1,GV,lQ⟩:=hv
   rw[bl]at GV;cases GV
   simp only[AR]at lQ
   obtain⟨hi,b',fb,hu⟩:=lQ
   rw[hb]at fb;cases fb
   have hl:cs.toList.length=υ.size:=by rw[uh,eM (by simp only[aJ];omega),hr.length]
   refine bc (GO (P:=P) (cs:=cs.toList) ho (hE.ty t _ ht) (GW (rF hq)) hu ?_ hl) (hn (.Jy υ z n j) _ [] _ _ M ν h (.refl hc.mem) ?_)
   ·have:=At.of_block hg 0 cs.toList.length
    rw[cM,ir]at this
    exact this
   ·simp only[VR]
    exact⟨_,kf,rfl,hr,by simpa [cF]using uh,hj,rF hq⟩
  ·exact T3 hE hc ho ht h λv rd ups v' w' M' ν' h1 h2 h3=>hn v (id::rd) ups v' w' M' ν' h1 h2 h3
 ·exact T3 hE hc ho ht h hn
theorem Fz.own{H H1:Nat→Option br}(h:Fz H H1){i:Nat}{e:Ty}{l:List e.den}(hi:H i=some (.own e l)):H1 i=some (.own e l)∨H1 i=some (.pG e l):=by
 rcases h i with h'|⟨e',l',h1,h2⟩
 ·exact .inl (by rw[h',hi])
 ·rw[hi]at h1;cases h1;exact .inr h2
theorem Vz(hE:EnvTy P E)(hc:Core c σ a.tmps w M ν){t:TypeId}{x y:Operand}(ho:o.op= .store t x y){K:gS α}{τ:Ty}(ht:E.ty t=some τ)
  (h:ng τ (σ.ρ x) (σ.ρ y) σ.H K=some r) (hn:fJ c σ a o w M ν K r next):o.wp P a w next Q:=by
 unfold ng at h
 split at h
 ·rename_i id p hx
  obtain⟨z,rd,ups,M',h,gw,hV,hz,kD⟩:=ld (.refl _) hc.mem (hc.ev y) h
  have hv:=hc.ev x
  rw[hx]at hv
  have hvz:=VR.ch gw.ch gw.goes hv
  have zq:=hE.ty t τ ht
  have FG:=hV.cells.length
  rw[bp]at FG
  split at h
  ·rename_i υ x0 bl
   have qx:=hz.obj bl
   obtain⟨x1,hK,DW,Jm,so⟩:=p5 h
   simp only[VR]at hvz
   obtain⟨e1,GV,lQ⟩:=hvz
   rw[qx]at GV;cases GV
   simp only[AR]at lQ
   obtain⟨hi,b,hb,hu⟩:=lQ
   have kO:=gw.mem.jQ id _ qx
   simp only[ER]at kO
   obtain⟨b',cs,te,fb,hg,hM,hr⟩:=kO
   rw[hb]at fb;cases fb
   have Jm:=Jm hi
   have hlc:=hr.length
   rw[bp]at hlc
   have dH:=lP (P:=P) ho zq hu hg FG ω hV.cells.lL
   rw[bp]at dH
   have xG:Tr c (cU σ.H ups) w M' ν (cm (cU σ.H ups) id (some (.obj υ x1))) (w.setRow b (eQ cs.toList (cF p υ) (a.eval y).cells.toList).toArray) M' ν:=by
    refine Tr.write (e':= .obj υ x1) gw.mem qx trivial trivial rfl (by rw[hb];rfl) hg λKg hk xH=> ?_
    simp only[ER]
    refine⟨b,_,te,hb,setRow_heap w b cs _ te _ hg,xH,?_⟩
    exact(so w M' cs.toList _ hi hr hV.cells).ch hk
   refine o7 dH ?_
   refine hn _ _ _ _ _ M' ν hK ?_ (by simp[VR])
   rw[eY]
   have:=gw.trans xG
   unfold eQ at this
   rw[bp]at this
   exact this
  ·rename_i e l bl
   split at h
   ·rename_i i q h0
    obtain⟨Bn,h⟩:=nE h
    have qx:cU σ.H ups id=some (.own e l):=by rw[kD id Bn];exact bl
    obtain⟨y1,hK,DW,Jm,so⟩:=p5 h
    simp only[VR]at hvz
    obtain⟨e1,GV,lQ⟩:=hvz
    rw[qx]at GV;cases GV
    simp only[AR]at lQ
    obtain⟨i',q',hpq,Bl,hi,b,n,cp,hb,hu⟩:=lQ
    cases hpq
    have kO:=gw.mem.jQ id _ qx
    simp only[ER]at kO
    rcases kO with⟨rfl,_⟩|⟨b',cs,te,cap,fb,hg,hM,T1,hl,FF,hs,hr⟩
    ·simp at Bl
    ·rw[hb]at fb;cases fb
     have Jm:=Jm hi
     have ug:=eE (s:=e.size) Bl
     have yP:l.length*e.size≤cp*e.size:=kB _ hl
     have dH:=lP (P:=P) ho zq hu hg FG ω hV.cells.lL
     rw[bp]at dH
     have hri:=hr i Bl
     rw[←lM l i e.zero Bl]at hri
     have oT:=so w M' _ _ hi hri hV.cells
     have hch:((cs.toList.drop (i*e.size)).take e.size).length=e.size:=hri.length
     have ab9:eQ cs.toList (i*e.size) (eQ ((cs.toList.drop (i*e.size)).take e.size) (cF q e) (a.eval y).cells.toList)=eQ cs.toList (i*e.size+cF q e) (a.eval y).cells.toList:=by
      have hl3:=oT.length
      have e1:cs.toList=cs.toList.take (i*e.size)++(((cs.toList.drop (i*e.size)).take e.size)++cs.toList.drop (i*e.size+e.size)):=by
       rw[←iJ,gT,gT]
      have eU:(cs.toList.take (i*e.size)).length=i*e.size:=by rw[cj,bp];omega
      conv=>rhs;rw[e1]
      rw[show i*e.size+cF q e=(cs.toList.take (i*e.size)).length+cF q e from by rw[eU],yL,Be (by rw[hch,bp];omega)]
      generalize eQ ((cs.toList.drop (i*e.size)).take e.size) (cF q e) (a.eval y).cells.toList=m at hl3 ⊢
      unfold eQ
      rw[hl3,bF]
     have xG:Tr c (cU σ.H ups) w M' ν (cm (cU σ.H ups) id (some (.own e (List.set l i y1)))) (w.setRow b (eQ cs.toList (i*e.size+cF q e) (a.eval y).cells.toList).toArray) M' ν:=by
      refine Tr.write (e':= .own e (List.set l i y1)) gw.mem qx trivial trivial ⟨rfl,by rw[bU]⟩ (by rw[hb];simp[fD];omega) hg λKg hk xH=> ?_
      simp only[ER]
      refine .inr ⟨b,_,te,cp,by rw[bU];exact hb,setRow_heap w b cs _ te _ hg,xH,T1,by rw[bU];exact hl,FF,?_,?_⟩
      ·rw[←ab9,jh,eM (by rw[oT.length,bp];omega),bp];exact hs
      ·have h9:cs.toList.length=cp*e.size:=by rw[bp,hs]
       have h10:=pI.set (w:=w) (M:=M') (cs:=cs.toList) (l:=l) hr (by rw[h9];exact yP) Bl oT
       rw[ab9]at h10
       exact λj hj=>(h10 j hj).ch hk
     refine o7 dH ?_
     refine hn _ _ _ _ _ M' ν hK ?_ (by simp[VR])
     rw[eY]
     have:=gw.trans xG
     unfold eQ at this
     rw[bp]at this
     exact this
   ·cases h
  ·cases h
 ·cases h
theorem Fz.gk{H H1:Nat→Option br}(h:Fz H H1){i:Nat}{τ:Ty}{x:τ.den}{p:List Step}{j:Nat}(hi:H i=some (.gk τ x p j)):H1 i=some (.gk τ x p j):=by
 rcases h i with h'|⟨e',l',h1,h2⟩
 ·rw[h',hi]
 ·rw[hi]at h1;cases h1
theorem zV{β:Type}{l a:List β}{o:Nat}(hl:o+a.length≤l.length)(i:Nat):(eQ l o a)[i]? =if o≤i∧i<o+a.length then a[i-o]? else l[i]? :=by
 unfold eQ
 by_cases h1:i<o
 ·rw[ag ω,bF,tv (by simp;omega),mX,ak h1]
 ·by_cases h2:i<o+a.length
  ·rw[ak ω,tv (by simp;omega),pC (by simp;omega)]
   simp[iu (show o≤l.length by omega)]
  ·rw[ag ω,pC (by simp;omega)]
   simp only[aS,cj,iu (show o≤l.length by omega),mY]
   congr 1;omega
theorem Ol{β:Type}{l a b:List β}{o o':Nat}(h:o'≤o∧o+a.length≤o'+b.length)(h1:o+a.length≤l.length)(h2:o'+b.length≤l.length):eQ (eQ l o a) o' b=eQ l o' b:=by
 have l1:=eM (a:=l) (o:=o) (new:=a) h1
 apply AV
 intro i
 rw[zV ω,zV ω,zV ω]
 by_cases c1:o'≤i∧i<o'+b.length
 ·rw[ak c1,ak c1]
 ·rw[ag c1,ag c1,ag ω]
theorem uR{β:Type}{l:List β}{o:Nat}{u v:β}(h:o<l.length):eQ (eQ l o [u]) o [v]=eQ l o [v]:=
 Ol (by simp) (by simp;omega) (by simp;omega)
theorem Om{β:Type}{l a b:List β}{o o':Nat}(h:o+a.length≤o'∨o'+b.length≤o)(h1:o+a.length≤l.length)(h2:o'+b.length≤l.length):eQ (eQ l o a) o' b=eQ (eQ l o' b) o a:=by
 have l1:=eM (a:=l) (o:=o) (new:=a) h1
 have l2:=eM (a:=l) (o:=o') (new:=b) h2
 apply AV
 intro i
 rw[zV ω,zV ω,zV ω,zV ω]
 by_cases c1:o'≤i∧i<o'+b.length
 ·rw[ak c1,ag ω,ak c1]
 ·rw[ag c1]
  by_cases c2:o≤i∧i<o+a.length
  ·rw[ak c2,ak c2]
  ·rw[ag c2,ag c2,ag c1]
theorem On{m:(υ:Ty)→υ.den→(υ.den→Option α)→Option α}: ∀{τ:Ty} {x:τ.den} {n:Nat} {k:τ.den→Option α},fZ τ x n m k=some r→ ∃υ y o k',DR τ x n υ y o∧m υ y k'=some r:=λh=>by
 obtain⟨υ,y,o,k',h1,h2,_⟩:=lf h
 exact⟨υ,y,o,k',h1,h2⟩
theorem GX{υ:Ty}{u:υ.den}: ∀{p:List Step} {τ:Ty} {x:τ.den} {k:τ.den→Option α},wQ υ u p τ x k=some r→ ∃y o,LM p τ x υ y o
 |[],τ,x,k,h=>by
  obtain⟨e,_⟩:=bA (h:cR υ τ u k=some r)
  subst e
  exact⟨x,0,.nil x⟩
 | .gM n::p,τ,x,k,h=>by
  obtain⟨υ',y,o,k',hf,hm⟩:=On (h:fZ τ x n _ k=some r)
  obtain⟨y',o',hp⟩:=GX (k:=k') hm
  exact⟨y',_,.gM hf hp⟩
 | .idx i::p,τ,x,k,h=>by
  cases τ with
  |arr n e=>
   obtain⟨y',o',hp⟩:=GX (p:=p) (τ:=e) (x:=γ x i e.zero) (k:=λz=>k (List.set x i z)) h
   exact⟨y',_,.idx hp⟩
  |_=>simp[wQ,FB]at h
theorem Kj: ∀{p q:List Step} {τ e:Ty},zi p q=true→fA q τ (.slice e)=true→cF p τ≤cF q τ∧cF q τ+1≤cF p τ+(JB p τ).size
 |[],q,τ,e,_,hq=>by
  obtain⟨_,_,zp⟩:=uP hq τ.zero
  have:=zp.bound (lN hq).1
  have h2:=zp.eq.2
  have:(Ty.slice e).size=1:=rfl
  simp only[cF,JB]
  omega
 | .gM a::p,.gM b::q,τ,e,hp,hq=>by
  simp only[zi,bQ]at hp
  have:=fF hp.1
  subst this
  unfold fA at hq
  split at hq
  ·rename_i c hc
   obtain⟨_,_,hf⟩:=kZ hc τ.zero
   have:=hf.eq.1
   subst this
   have:=Kj hp.2 hq
   simp only[cF,JB]
   omega
  ·cases hq
 | .gM _::_,[],_,_,hp,_| .gM _::_,.idx _::_,_,_,hp,_| .idx _::_,_,_,_,hp,_=>by simp[zi]at hp
theorem ER.VA{H:Nat→Option br}(hm:Mem c H w M ν){k:Nat}{e:Ty}{l:List e.den}(hk:H k=some (.own e l)): ∃ad cp,ν k= .slice ad l.length cp:=by
 have:=hm.jQ k _ hk
 simp only[ER]at this
 rcases this with⟨rfl,a,hv⟩|⟨b,cs,t,cap,hv,_⟩
 ·exact⟨a,0,hv⟩
 ·exact⟨_,cap,hv⟩
theorem vD(hE:EnvTy P E)(hc:Core c σ a.tmps w M ν){t:TypeId}{x y:Operand}(ho:o.op= .store t x y){K:gS α}{τ:Ty}(ht:E.ty t=some τ){id k:Nat}{q:List Step}{e:Ty}{υ:Ty}{z:υ.den}
  (hx:σ.ρ x= .jf id q) (hy:σ.ρ y= .ref k) {en:br} (bl:σ.H id=some en) (hen:en.mut) (Bo:en.lO (.gk υ z q k)) (hq:fA q υ (.slice e)=true)
  (mE: ∃b cs te kf u,ν id= .pointer (some ⟨b,0,none⟩)∧w.heap[b]? =some (.cells cs te (0,0))∧Rd w M υ kf z∧cs.toList=eQ kf (cF q υ) [u])
  (h:zA τ id k e q υ z σ.H K=some r) (hn:fJ c σ a o w M ν K r next):o.wp P a w next Q:=by
 unfold zA at h
 split at h
 ·rename_i e' l hk
  obtain⟨e1,h1⟩:=dX h
  clear h
  subst e1
  obtain⟨e2,h2⟩:=dX h1
  clear h1
  subst e2
  obtain⟨z',hK,DW,Jm,so⟩:=p5 h2
  obtain⟨b,cs,te,kf,u,hb,hg,hr,uh⟩:=mE
  have Sg:=(lN hq).1
  obtain⟨ad,cp,hνk⟩:=ER.VA hc.mem hk
  have Bp:=hc.ev y
  rw[hy]at Bp
  simp only[VR]at Bp
  have Bp:=Bp.2
  have Jm:=Jm Sg
  have hlen:=hr.length
  have NA:(Ty.slice e').size=1:=rfl
  have eU:cF q υ<kf.length:=ω
  have FG:cs.toList.length=kf.length:=by rw[uh];exact eM (by simp;omega)
  have hv:=hc.ev x
  rw[hx]at hv
  simp only[VR]at hv
  obtain⟨e3,he3,lQ⟩:=hv
  rw[bl]at he3;cases he3
  have lQ:=lQ.lO Bo
  simp only[AR]at lQ
  obtain⟨_,b',fb,hu⟩:=lQ
  rw[hb]at fb;cases fb
  have hyc:(a.eval y).cells.toList=[ν k]:=by rw[Bp,hνk];rfl
  have qR:(a.eval y).cells.size=(Ty.slice e').size:=by rw[←bp,hyc];rfl
  have dH:=lP (P:=P) ho (hE.ty t _ ht) hu hg qR (by rw[←bp];omega) (by rw[hyc,hνk];simp[Value.oneCell'])
  have oT:(cs.toList.take (cF q υ)++(a.eval y).cells.toList++cs.toList.drop (cF q υ+(a.eval y).cells.toList.length))=eQ kf (cF q υ) [ν k]:=by
   rw[hyc]
   show eQ cs.toList (cF q υ) [ν k]=_
   rw[uh,uR eU]
  rw[oT]at dH
  have hrz:Rd w M υ (eQ kf (cF q υ) [.slice none 0 0]) z':=so w M kf [.slice none 0 0] Sg hr (Rd.zero w M (.slice e'))
  have gw:Tr c σ.H w M ν (cm σ.H id (some (.gk υ z' q k))) (w.setRow b (eQ kf (cF q υ) [ν k]).toArray) M ν:=by
   refine Tr.write (e':= .gk υ z' q k) hc.mem bl hen trivial (by cases en<;>simp only[br.lO]at Bo ⊢ <;>exact Bo) (by rw[hb];rfl) hg (λKg Bq xH=> ?_) (fun τ' x' p' j' hl=> ?_)
   ·simp only[ER]
    refine⟨b,_,te,eQ kf (cF q υ) [.slice none 0 0],ν k,hb,setRow_heap w b cs _ te _ hg,xH,hrz.ch Bq,?_,by rw[hνk];rfl,e',hq⟩
    rw[uR eU]
   ·cases hl
    refine⟨by rw[hk];simp,b,hb,?_⟩
    rw[cell_of (setRow_heap w b cs _ te _ hg),←iH]
    show(eQ kf (cF q υ) [ν k])[cF q υ]? =_
    rw[yM eU]
  exact o7 dH (hn _ _ _ _ _ M ν hK gw (by simp[VR]))
 ·cases h
theorem GY(hE:EnvTy P E)(hc:Core c σ a.tmps w M ν){t:TypeId}{x y:Operand}(ho:o.op= .store t x y){K:gS α}{τ:Ty}(ht:E.ty t=some τ)
  (h:kV E τ (σ.ρ x) (σ.ρ y) σ.H K=some r) (hn:fJ c σ a o w M ν K r next):o.wp P a w next Q:=by
 have hold:ng τ (σ.ρ x) (σ.ρ y) σ.H K=some r→o.wp P a w next Q:=λh=>Vz hE hc ho ht h hn
 unfold kV at h
 simp only at h
 split at h
 ·rename_i id p hx
  have o4:=hx
  split at h
  ·rename_i υ z bl
   split at h
   ·rename_i q e k qQ hy
    cases hp:Jx p q
    ·rw[hp]at h;exact hold h
    ·rw[hp]at h
     simp only[aj]at h
     have:=zQ hp
     subst this
     have hq:=sm qQ
     have kO:=hc.mem.jQ id _ bl
     simp only[ER]at kO
     obtain⟨b,cs,te,hb,hg,hM,hr⟩:=kO
     have eU:cF p υ<cs.toList.length:=by
      obtain⟨_,_,zp⟩:=uP hq z
      have:=zp.bound (lN hq).1
      have h2:=zp.eq.2
      have:=hr.length
      have:(Ty.slice e).size=1:=rfl
      omega
     refine vD hE hc ho ht hx hy bl trivial rfl hq ⟨b,cs,te,cs.toList,cs.toList[cF p υ],hb,hg,hr,?_⟩ h hn
     exact(xB (bm eU)).symm
   ·exact hold h
  ·rename_i υ z q j bl
   obtain⟨b,cs,te,kf,e0,hb,hg,hM,hr,uh,h1,hq,eU,hj⟩:=hc.mem.linked bl
   have Br:nc true (σ.ρ y) σ.H τ (λy rd ups=>wQ τ y p υ z λz=>K .any (id::rd) (ups++[(id,some (cond (zi p q) (.obj υ z) (.gk υ z q j)))]))=some r→o.wp P a w next Q:=by
    intro h
    obtain⟨u,rd,ups,M',h,gw,hV,hz,kD⟩:=ld (.refl _) hc.mem (hc.ev y) h
    have qx:=hz.gk bl
    have hv:=hc.ev x
    rw[hx]at hv
    have hvz:=VR.ch gw.ch gw.goes hv
    simp only[VR]at hvz
    obtain⟨e1,GV,lQ⟩:=hvz
    rw[qx]at GV;cases GV
    simp only[AR]at lQ
    obtain⟨hi,b1,nD,hu⟩:=lQ
    rw[hb]at nD;cases nD
    obtain⟨b2,T4,te2,cs3,e3,vm,Yj,LR,zT,acb,h12,hq2,ao5,hj2⟩:=gw.mem.linked qx
    rw[hb]at vm;cases vm
    rw[hg]at Yj;cases Yj
    obtain⟨z',hK,DW,Jm,so⟩:=p5 h
    have Jm:=Jm hi
    have hlc:=zT.length
    have FG:cs.toList.length=cs3.length:=by rw[acb];exact eM (by simp;omega)
    have hcy:=hV.cells.length
    rw[bp]at hcy
    have aCx:(a.eval y).cells.toList.length=τ.size:=by rw[bp];exact hcy
    have dH:=lP (P:=P) ho (hE.ty t _ ht) hu hg hcy (by rw[←bp];omega) hV.cells.lL
    have Oo:cs.toList.take (cF p υ)++(a.eval y).cells.toList++cs.toList.drop (cF p υ+(a.eval y).cells.toList.length)=eQ cs.toList (cF p υ) (a.eval y).cells.toList:=rfl
    rw[Oo]at dH
    have hzr:=so w M' cs3 _ hi zT hV.cells
    have fin: ∀e',e'.mut→br.lO (.gk υ z q j) e'→K .any (id::rd) (ups++[(id,some e')])=some r→(∀Kg,fP w M' (w.setRow b (eQ cs.toList (cF p υ) (a.eval y).cells.toList).toArray) Kg→Kg b→ER (w.setRow b (eQ cs.toList (cF p υ) (a.eval y).cells.toList).toArray) Kg (ν id) e')→
      (∀τ' x' p' j',e'= .gk τ' x' p' j'→(cU σ.H ups) j'≠none∧ ∃b',ν id= .pointer (some ⟨b',0,none⟩)∧(w.setRow b (eQ cs.toList (cF p υ) (a.eval y).cells.toList).toArray).cell? ⟨b',cF p' τ',none⟩=some (ν j'))→o.wp P a w next Q:=by
     intro e' ji Jj hK Vu qQ
     have xG:=Tr.write (e':=e') gw.mem qx trivial ji Jj (by rw[hb];rfl) hg Vu qQ
     refine o7 dH (hn _ _ _ _ _ M' ν hK ?_ (by simp[VR]))
     rw[eY]
     exact gw.trans xG
    cases Jk:zi p q
    ·rw[Jk]at hK
     simp only[av]at hK
     obtain⟨yy,oo,zp⟩: ∃y o,LM p υ z τ y o:=GX h
     have hap:=zp.apart hi hq Jk
     have hoo:=zp.eq.2
     subst hoo
     have aiJ:eQ cs.toList (cF p υ) (a.eval y).cells.toList=eQ (eQ cs3 (cF p υ) (a.eval y).cells.toList) (cF q υ) [ν j]:=by
      rw[acb]
      exact Om (by simp only[aJ];omega) (by simp only[aJ];omega) ω
     have hl3:=eM (a:=cs3) (o:=cF p υ) (new:=(a.eval y).cells.toList) ω
     refine fin (.gk υ z' q j) trivial rfl hK (λKg hk xH=> ?_) (fun τ' x' p' j' hl=> ?_)
     ·simp only[ER]
      exact⟨b,_,te,_,ν j,hb,setRow_heap w b cs _ te _ hg,xH,hzr.ch hk,aiJ,h1,e0,hq⟩
     ·cases hl
      refine⟨hj2,b,hb,?_⟩
      rw[cell_of (setRow_heap w b cs _ te _ hg),←iH]
      show(eQ cs.toList (cF p υ) (a.eval y).cells.toList)[cF q υ]? =_
      rw[aiJ,yM ω]
    ·rw[Jk]at hK
     simp only[aj]at hK
     refine fin (.obj υ z') trivial rfl hK (λKg hk xH=> ?_) (fun τ' x' p' j' hl=>by cases hl)
     simp only[ER]
     refine⟨b,_,te,hb,setRow_heap w b cs _ te _ hg,xH,?_⟩
     show Rd _ _ υ (eQ cs.toList (cF p υ) (a.eval y).cells.toList) z'
     have ke:=Kj Jk hq
     rw[DW]at ke
     have ho:eQ cs.toList (cF p υ) (a.eval y).cells.toList=eQ cs3 (cF p υ) (a.eval y).cells.toList:=by
      rw[acb]
      exact Ol (by simp only[aJ];omega) (by simp only[aJ];omega) ω
     have h9:=hzr.ch hk
     rw[←ho]at h9
     exact h9
   split at h
   ·rename_i q' e k qQ hy
    cases hp:(Jx p q&&Jx q q')
    ·rw[hp]at h;exact Br h
    ·rw[hp]at h
     simp only[aj]at h
     rw[bQ]at hp
     have:=zQ hp.1
     subst this
     have:=zQ hp.2
     subst this
     refine vD hE hc ho ht hx hy bl trivial rfl (sm qQ) ⟨b,cs,te,kf,ν j,hb,hg,hr,uh⟩ h hn
   ·exact Br h
  ·exact hold h
 ·exact hold h
theorem VB(hE:EnvTy P E)(hc:Core c σ a.tmps w M ν){t:TypeId}{x y:Operand}(ho:o.op= .store t x y){K:gS α}{τ:Ty}(ht:E.ty t=some τ)
  (h:ub E τ (σ.ρ x) (σ.ρ y) σ.H K=some r) (hn:fJ c σ a o w M ν K r next):o.wp P a w next Q:=by
 unfold ub at h
 split at h
 ·rename_i id υ z n hx hy
  split at h
  ·rename_i m e qQ
   cases CI:Nat.beq m n
   ·rw[CI]at h
    simp only[av]at h
    exact GY hE hc ho ht h hn
   ·rw[CI]at h
    simp only[aj]at h
    have CI:=fF CI
    subst CI
    obtain⟨e1,h1⟩:=dX h
    clear h
    subst e1
    have hq:=sm qQ
    have Bp:=hc.ev y
    rw[hy]at Bp
    simp only[VR]at Bp
    obtain⟨hV,cs,ad,hva,hz⟩:=Bp
    have hcy:(a.eval y).cells=cs:=by rw[hva];rfl
    obtain⟨en,bl,hen,hK⟩: ∃en:br,σ.H id=some en∧(∃z0,en= .obj τ z0∨ ∃q j,en= .gk τ z0 q j)∧σ.H (id+2)=none∧K .any [id,id+2] [(id,some (.gk τ z [.gM m] (id+2))),(id+2,some (.own e []))]=some r:=by
     unfold mf at h1
     split at h1
     ·rename_i υ z0 bl
      obtain⟨e2,h2⟩:=dX h1
      clear h1
      subst e2
      obtain⟨h3,h4⟩:=mD h2
      exact⟨_,bl,⟨z0,.inl rfl⟩,h3,h4⟩
     ·rename_i υ z0 q j bl
      obtain⟨e2,h2⟩:=dX h1
      clear h1
      subst e2
      obtain⟨h3,h4⟩:=mD h2
      exact⟨_,bl,⟨z0,.inr ⟨q,j,rfl⟩⟩,h3,h4⟩
     ·cases h1
     ·cases h1
     ·cases h1
    obtain⟨hk,hK⟩:=hK
    have aki:en.mut:=by rcases hen with⟨z0,rfl|⟨q,j,rfl⟩⟩<;>trivial
    have Bo:en.lO (.obj τ z):=by rcases hen with⟨z0,rfl|⟨q,j,rfl⟩⟩<;>rfl
    obtain⟨b,kf,te,hb,hg,qR⟩: ∃b kf te,ν id= .pointer (some ⟨b,0,none⟩)∧w.heap[b]? =some (.cells kf te (0,0))∧kf.toList.length=τ.size:=by
     rcases hen with⟨z0,rfl|⟨q,j,rfl⟩⟩
     ·have:=hc.mem.jQ id _ bl
      simp only[ER]at this
      obtain⟨b,kf,te,h2,h3,_,h5⟩:=this
      exact⟨b,kf,te,h2,h3,h5.length⟩
     ·obtain⟨b,kf,te,zW,_,h2,h3,_,h5,h6,_,_,h7,_⟩:=hc.mem.linked bl
      refine⟨b,kf,te,h2,h3,?_⟩
      rw[h6,eM (by simp only[aJ];omega),h5.length]
    have hv:=hc.ev x
    rw[hx]at hv
    simp only[VR]at hv
    obtain⟨e3,he3,lQ⟩:=hv
    rw[bl]at he3;cases he3
    have lQ:=lQ.lO Bo
    simp only[AR]at lQ
    obtain⟨_,b',fb,hu⟩:=lQ
    rw[hb]at fb;cases fb
    have FG:=hV.cells.length
    have dH:=lP (P:=P) ho (hE.ty t _ ht) hu hg (by rw[←bp];exact FG) (by rw[←bp,qR];simp[cF]) hV.cells.lL
    have Oo:kf.toList.take (cF [] τ)++(a.eval y).cells.toList++kf.toList.drop (cF [] τ+(a.eval y).cells.toList.length)=(a.eval y).cells.toList:=by
     simp only[cF,mA,cD,fX]
     rw[jM ω,cA]
    rw[Oo]at dH
    have so:=setRow_heap w b kf (a.eval y).cells.toList.toArray te _ hg
    have gw:=Tr.write (e':= .obj τ z) (new:=(a.eval y).cells.toList.toArray) hc.mem bl aki trivial Bo (by rw[hb];rfl) hg (λKg Bq xH=>by
     simp only[ER]
     exact⟨b,_,te,hb,so,xH,hV.cells.ch Bq⟩)
    have kN:id+2≠id:=ω
    have xG:=Tr.Yh gw.mem (id:=id) (k:=id+2) (by rw[az _ _ kN];exact hk) (ay _ _ _) hb so hq (ad:=ad) (by rw[hcy];simpa [cF]using hz)
    have e1:cU (cm σ.H id (some (.obj τ z))) [(id,some (.gk τ z [.gM m] (id+2))),(id+2,some (.own e []))]=cU σ.H [(id,some (.gk τ z [.gM m] (id+2))),(id+2,some (.own e []))]:=by
     show cm (cm (cm σ.H id _) id _) (id+2) _=cm (cm σ.H id _) (id+2) _
     rw[zS]
    rw[e1]at xG
    exact o7 dH (hn _ _ _ _ _ _ _ hK (gw.trans xG) (by simp[VR]))
  ·exact GY hE hc ho ht h hn
 ·exact GY hE hc ho ht h hn
theorem CJ(hE:EnvTy P E)(hc:Core c σ a.tmps w M ν){t:TypeId}{x y:Operand}(ho:o.op= .store t x y){K:gS α}{τ:Ty}(ht:E.ty t=some τ)
  (h:uc E τ (σ.ρ x) (σ.ρ y) σ.H K=some r) (hn:fJ c σ a o w M ν K r next):o.wp P a w next Q:=by
 unfold uc at h
 split at h
 ·rename_i id υ z n j hx hy
  split at h
  ·rename_i m e qQ
   obtain⟨CI,h0⟩:=cG h
   clear h
   have CI:=fF CI
   subst CI
   obtain⟨e1,h1⟩:=dX h0
   clear h0
   subst e1
   have hq:=sm qQ
   have Bp:=hc.ev y
   rw[hy]at Bp
   simp only[VR]at Bp
   obtain⟨cs,kf,hva,hzr,uh,hj,wU⟩:=Bp
   have hcy:(a.eval y).cells=cs:=by rw[hva];rfl
   obtain⟨en,bl,hen,h2⟩: ∃en:br,σ.H id=some en∧(∃z0,en= .obj τ z0∨ ∃q j,en= .gk τ z0 q j)∧(match σ.H j with
    |some (.own e' _)=>jt e' e (K .any [id,j] [(id,some (.gk τ z [.gM m] j))])
    |_=>none)=some r:=by
    unfold mf at h1
    split at h1
    ·rename_i υ z0 bl
     obtain⟨e2,h2⟩:=dX h1
     clear h1
     subst e2
     exact⟨_,bl,⟨z0,.inl rfl⟩,h2⟩
    ·rename_i υ z0 q j bl
     obtain⟨e2,h2⟩:=dX h1
     clear h1
     subst e2
     exact⟨_,bl,⟨z0,.inr ⟨q,j,rfl⟩⟩,h2⟩
    ·cases h1
    ·cases h1
    ·cases h1
   obtain⟨l,Bm,hK⟩: ∃l,σ.H j=some (.own e l)∧K .any [id,j] [(id,some (.gk τ z [.gM m] j))]=some r:=by
    split at h2
    ·rename_i e' l Bm
     obtain⟨e3,h3⟩:=dX h2
     clear h2
     subst e3
     exact⟨l,Bm,h3⟩
    ·cases h2
   have CF:(ν j).oneCell'=true:=by
    have:=hc.mem.jQ j _ Bm
    simp only[ER]at this
    rcases this with⟨_,ad,hv⟩|⟨b,cs,t,cap,hv,_⟩<;>rw[hv]<;>rfl
   have aki:en.mut:=by rcases hen with⟨z0,rfl|⟨q,j,rfl⟩⟩<;>trivial
   have Bo:en.lO (.gk τ z [.gM m] j):=by rcases hen with⟨z0,rfl|⟨q,j,rfl⟩⟩<;>rfl
   obtain⟨b,T4,te,hb,hg,qR⟩: ∃b T4 te,ν id= .pointer (some ⟨b,0,none⟩)∧w.heap[b]? =some (.cells T4 te (0,0))∧T4.toList.length=τ.size:=by
    rcases hen with⟨z0,rfl|⟨q,j,rfl⟩⟩
    ·have:=hc.mem.jQ id _ bl
     simp only[ER]at this
     obtain⟨b,kf,te,h2,h3,_,h5⟩:=this
     exact⟨b,kf,te,h2,h3,h5.length⟩
    ·obtain⟨b,kf,te,zW,_,h2,h3,_,h5,h6,_,_,h7,_⟩:=hc.mem.linked bl
     refine⟨b,kf,te,h2,h3,?_⟩
     rw[h6,eM (by simp only[aJ];omega),h5.length]
   have hv:=hc.ev x
   rw[hx]at hv
   simp only[VR]at hv
   obtain⟨e3,he3,lQ⟩:=hv
   rw[bl]at he3;cases he3
   have lQ:=lQ.lO Bo
   simp only[AR]at lQ
   obtain⟨_,b',fb,hu⟩:=lQ
   rw[hb]at fb;cases fb
   obtain⟨y0,o0,hf0⟩:=kZ (zU wU).choose_spec.2 z
   have hfb:=hf0.bound
   rw[hf0.eq.2]at hfb
   have NA:(Ty.slice (zU wU).choose).size=1:=rfl
   rw[NA]at hfb
   have hl0:=hzr.length
   have eU:gy τ m<kf.length:=ω
   have FG:cs.toList.length=τ.size:=by rw[uh,eM (by simp only[aJ];omega),hl0]
   have akj: ∀v∈cs.toList,v.oneCell'=true:=by
    intro v hv
    rw[uh]at hv
    unfold eQ at hv
    simp only[bn,cy]at hv
    rcases hv with(hv|hv)|hv
    ·exact hzr.lL v (lI hv)
    ·rw[hv];exact CF
    ·exact hzr.lL v (mV hv)
   have dH:=lP (P:=P) ho (hE.ty t _ ht) hu hg (by rw[hcy,←bp];exact FG) (by rw[←bp,qR];simp[cF]) (by rw[hcy];exact akj)
   have Oo:T4.toList.take (cF [] τ)++(a.eval y).cells.toList++T4.toList.drop (cF [] τ+(a.eval y).cells.toList.length)=cs.toList:=by
    rw[hcy]
    simp only[cF,mA,cD,fX]
    rw[jM ω,cA]
   rw[Oo]at dH
   have so:=setRow_heap w b T4 cs.toList.toArray te _ hg
   have ao6:cF [.gM m] τ=gy τ m:=by simp[cF]
   have gw:=Tr.write (e':= .gk τ z [.gM m] j) (new:=cs.toList.toArray) hc.mem bl aki trivial Bo (by rw[hb];rfl) hg (λKg Bq xH=>by
    simp only[ER]
    exact⟨b,_,te,kf,ν j,hb,so,xH,hzr.ch Bq,by rw[ao6];exact uh,CF,e,hq⟩) (fun τ' x' p' j' hl=>by
    cases hl
    refine⟨hj,b,hb,?_⟩
    rw[cell_of so,ao6]
    show cs.toList.toArray[gy τ m]? =_
    rw[Gm,uh,yM eU])
   exact o7 dH (hn _ _ _ _ _ _ _ hK gw (by simp[VR]))
  ·cases h
 ·exact VB hE hc ho ht h hn
theorem VC(hE:EnvTy P E)(hc:Core c σ a.tmps w M ν){t:TypeId}{x y:Operand}(ho:o.op= .store t x y){K:gS α}{τ:Ty}(ht:E.ty t=some τ)
  (h:sj E τ (σ.ρ x) (σ.ρ y) σ.H K=some r) (hn:fJ c σ a o w M ν K r next):o.wp P a w next Q:=by
 unfold sj at h
 split at h
 ·rename_i id n k hx hy
  cases hb:aj6 E id n
  ·rw[hb]at h
   exact CJ hE hc ho ht (by rw[hx,hy];exact h) hn
  ·rw[hb]at h
   simp only[aj]at h
   split at h
   ·rename_i υ z q j bl
    cases hp:Jx q [.gM n]
    ·rw[hp]at h
     simp only[av]at h
     split at h
     ·rename_i e R1
      obtain⟨z',ups,M',h,gw,hfz,_,b,cs,te,hbb,hg,hM,hr⟩:=vC hc.mem bl h
      have hq:fA [.gM n] υ (.slice e)=true:=by simp[fA,R1]
      have Sh:Core c ⟨σ.T,cU σ.H ups⟩ a.tmps w M' ν:=⟨gw.mem,λi=>VR.ch gw.ch gw.goes (hc.tmp i)⟩
      have eU:cF [.gM n] υ<cs.toList.length:=by
       obtain⟨y0,o0,hf0⟩:=kZ R1 z'
       have h1:=hf0.bound
       have h2:=hf0.eq.2
       have h3:=hr.length
       have h4:(Ty.slice e).size=1:=rfl
       show gy υ n+0<_
       omega
      refine vD (σ:=⟨σ.T,cU σ.H ups⟩) hE Sh ho ht hx hy (hfz.gk bl) trivial rfl hq ⟨b,cs,te,cs.toList,cs.toList[cF [.gM n] υ],hbb,hg,hr,(xB (bm eU)).symm⟩ h ?_
      intro v rd ju v' w' Kg ν'' hK T6 hvr
      refine hn v _ _ v' w' Kg ν'' hK ?_ ?_
      ·rw[eY];exact gw.trans T6
      ·rw[eY];exact hvr
     ·cases h
    ·rw[hp]at h
     exact CJ hE hc ho ht (by rw[hx,hy];exact h) λv rd ups v' w' M' ν' h1 h2 h3=>hn v (id::rd) ups v' w' M' ν' h1 h2 h3
   ·rename_i υ z bl
    split at h
    ·rename_i e R1
     have hq:fA [.gM n] υ (.slice e)=true:=by simp[fA,R1]
     have kO:=hc.mem.jQ id _ bl
     simp only[ER]at kO
     obtain⟨b,cs,te,hbb,hg,hM,hr⟩:=kO
     have eU:cF [.gM n] υ<cs.toList.length:=by
      obtain⟨y0,o0,hf0⟩:=kZ R1 z
      have h1:=hf0.bound
      have h2:=hf0.eq.2
      have h3:=hr.length
      have h4:(Ty.slice e).size=1:=rfl
      show gy υ n+0<_
      omega
     exact vD hE hc ho ht hx hy bl trivial rfl hq ⟨b,cs,te,cs.toList,cs.toList[cF [.gM n] υ],hbb,hg,hr,(xB (bm eU)).symm⟩ h hn
    ·cases h
   ·cases h
 ·exact CJ hE hc ho ht h hn
theorem nb{n:Nat}(h:Nat.beq n 0=false):n≠0:=by rw[←lJ,xp]at h;exact h
theorem At.sub{b off:Nat}{cs:List Value}(h:At w b off cs)(o n:Nat):At w b (off+o) ((cs.drop o).take n):=by
 intro j v hj
 rw[mX]at hj
 split at hj
 ·rw[mY]at hj
  have:=h _ v hj
  rwa [←pW]at this
 ·cases hj
def xI:br→List Step→Option Ty
 | .obj τ _,p=>some (JB p τ)
 | .gk τ _ _ _,p=>some (JB p τ)
 | .own e _,.idx _::p| .pG e _,.idx _::p=>some (JB p e)
 |_,_=>none
theorem GZ{id:Nat}{p:List Step}{H:Nat→Option br}{k:Ty→Option α}(h:mf id p H k=some r): ∃e υ,H id=some e∧xI e p=some υ∧k υ=some r:=by
 unfold mf at h
 split at h
 ·rename_i τ x bl
  obtain⟨υ,y,o,hp,hk⟩:=kY h
  exact⟨_,υ,bl,by simp[xI,hp.eq.1],hk⟩
 ·rename_i τ x _ _ bl
  obtain⟨υ,y,o,hp,hk⟩:=kY h
  exact⟨_,υ,bl,by simp[xI,hp.eq.1],hk⟩
 ·rename_i e l bl
  split at h
  ·obtain⟨υ,y,o,hp,hk⟩:=kY h
   exact⟨_,υ,bl,by simp[xI,hp.eq.1],hk⟩
  ·cases h
 ·rename_i e l bl
  split at h
  ·obtain⟨υ,y,o,hp,hk⟩:=kY h
   exact⟨_,υ,bl,by simp[xI,hp.eq.1],hk⟩
  ·cases h
 ·cases h
theorem AR.step{v:Value}{p:List Step}{u:Value}{e:br}{υ:Ty}(h:AR v p u e)(ht:xI e p=some υ)(s:Step)(hs:zo [s] υ):
  ∃b off,u= .pointer (some ⟨b,off,none⟩)∧AR v (p++[s]) (.pointer (some ⟨b,off+cF [s] υ,none⟩)) e:=by
 cases e with
 |obj τ x=>
  simp only[xI,iI]at ht
  simp only[AR]at h ⊢
  obtain⟨hi,b,hb,rfl⟩:=h
  subst ht
  exact⟨b,_,rfl,(tC p [s] τ).2 ⟨hi,hs⟩,b,hb,by rw[tB]⟩
 |gk τ x _ _=>
  simp only[xI,iI]at ht
  simp only[AR]at h ⊢
  obtain⟨hi,b,hb,rfl⟩:=h
  subst ht
  exact⟨b,_,rfl,(tC p [s] τ).2 ⟨hi,hs⟩,b,hb,by rw[tB]⟩
 |own e l=>
  simp only[AR]at h ⊢
  obtain⟨i,q,rfl,Bl,hi,b,n,cp,hb,rfl⟩:=h
  simp only[xI,iI]at ht
  subst ht
  exact⟨b,_,rfl,i,q++[s],rfl,Bl,(tC q [s] e).2 ⟨hi,hs⟩,b,n,cp,hb,by rw[tB,pW]⟩
 |pG e l=>
  simp only[AR]at h ⊢
  obtain⟨i,q,rfl,Bl,hi,b,n,cp,hb,rfl⟩:=h
  simp only[xI,iI]at ht
  subst ht
  exact⟨b,_,rfl,i,q++[s],rfl,Bl,(tC q [s] e).2 ⟨hi,hs⟩,b,n,cp,hb,by rw[tB,pW]⟩
 |gone=>simp[xI]at ht
theorem CK(hE:EnvTy P E)(hc:Core c σ a.tmps w M ν){t:TypeId}{x:Operand}{n:Nat}(ho:o.op= .fieldAddr t x n){K:gS α}{τ:Ty}(ht:E.ty t=some τ){id:Nat}{p:List Step}(hx:σ.ρ x= .jf id p)
  (h:mf id p σ.H (fun υ=>jt υ τ (vv τ τ.zero n fun υ' _=>cond (Nat.beq υ'.size 0) none (K (.jf id (p++[.gM n])) [id] [])))=some r) (hn:fJ c σ a o w M ν K r next):o.wp P a w next Q:=by
 obtain⟨e,υ,bl,het,h⟩:=GZ h
 obtain⟨he_,h_⟩:=dX h
 clear h
 subst he_
 have h:=h_
 clear h_
 obtain⟨υ',y,of,hf,h⟩:=p4 h
 obtain⟨hz,h⟩:=nE h
 have hv:=hc.ev x
 rw[hx]at hv
 simp only[VR]at hv
 obtain⟨e',uw,lQ⟩:=hv
 rw[bl]at uw;cases uw
 obtain⟨b,off,hu,akm⟩:=lQ.step het (.gM n) trivial
 obtain⟨fs,f,R2,hff,hfo,FH⟩:=(hE.ty t υ ht).gM hf
 obtain⟨v,dH,hvv⟩:=uQ (P:=P) ho (w:=w) R2 hff FH (nb hz) hu
 refine bc dH (hn _ _ _ _ _ M ν h (.refl hc.mem) ?_)
 simp only[VR]
 refine⟨e,bl,?_⟩
 rw[hvv,hfo,hf.eq.2]
 simpa [cF]using akm
theorem Bs(hE:EnvTy P E)(hc:Core c σ a.tmps w M ν){t:TypeId}{x:Operand}{n:Nat}(ho:o.op= .fieldAddr t x n){K:gS α}{τ:Ty}(ht:E.ty t=some τ){υ:Ty}{z:υ.den}(hx:σ.ρ x= .sd υ z)
  (h:jt υ τ (vv υ z n fun υ y=>cond (Nat.beq υ.size 0) none (K (.sd υ y) [] []))=some r) (hn:fJ c σ a o w M ν K r next):o.wp P a w next Q:=by
 obtain⟨he,h1⟩:=dX h
 subst he
 obtain⟨υ',y,of,hf,h⟩:=p4 h1
 obtain⟨hz,h⟩:=nE h
 have hv:=hc.ev x
 rw[hx]at hv
 simp only[VR]at hv
 obtain⟨b,off,hu,hb,hM,cs,pH,hr⟩:=hv
 obtain⟨fs,f,R2,hff,hfo,FH⟩:=(hE.ty t υ ht).gM hf
 obtain⟨v,dH,hvv⟩:=uQ (P:=P) ho (w:=w) R2 hff FH (nb hz) hu
 refine bc dH (hn _ _ _ _ _ M ν h (.refl hc.mem) ?_)
 simp only[VR]
 exact⟨b,off+f.offset,hvv,hb,hM,_,by rw[hfo];exact pH.sub of υ'.size,hf.rd hr⟩
theorem V.agg{τ:Ty}(ha:τ.isAgg=true){v:Value}{x:τ.den}(h:V w M τ v x): ∃cs,v= .agg cs∧Rd w M τ cs.toList x:=by
 unfold V at h;rw[ak ha]at h;exact h
theorem DR.agg{τ:Ty}{x:τ.den}{n:Nat}{υ:Ty}{y:υ.den}{o:Nat}(h:DR τ x n υ y o):τ.isAgg=true:=by cases h<;>rfl
theorem Yl(hE:EnvTy P E)(hc:Core c σ a.tmps w M ν){t:TypeId}{x:Operand}{n:Nat}(ho:o.op= .field t x n){K:gS α}{τ:Ty}(ht:E.ty t=some τ){υ:Ty}{z:υ.den}(hx:σ.ρ x= .val υ z)
  (h:jt υ τ (vv υ z n fun υ y=>K (.val υ y) [] [])=some r) (hn:fJ c σ a o w M ν K r next):o.wp P a w next Q:=by
 obtain⟨he,h1⟩:=dX h
 subst he
 obtain⟨υ',y,of,hf,h⟩:=p4 h1
 have hv:=hc.ev x
 rw[hx]at hv
 simp only[VR]at hv
 obtain⟨cs,hu,hr⟩:=hv.agg hf.agg
 obtain⟨fs,f,R2,hff,hfo,FH⟩:=(hE.ty t υ ht).gM hf
 have ed:=hf.rd hr
 refine bc (LO ho R2 hff FH hu (by rw[hfo];exact ed)) (hn _ _ _ _ _ M ν h (.refl hc.mem) ?_)
 simp only[VR]
 rw[hfo]
 exact V.cr ed
theorem LS(hE:EnvTy P E)(hc:Core c σ a.tmps w M ν){t:TypeId}{x i:Operand}(ho:o.op= .indexAddr t x i){K:gS α}{τ:Ty}(ht:E.ty t=some τ)
  (h:ic τ (σ.ρ x) (σ.ρ i) σ.H K=some r) (hn:fJ c σ a o w M ν K r next):o.wp P a w next Q:=by
 unfold ic at h
 obtain⟨k,n,hi,h2⟩:=oq h
 clear h
 have h:=h2
 clear h2
 have T7:=hc.ev i
 rw[hi]at T7
 have T7:=T7.int
 have hv:=hc.ev x
 have zq:=hE.ty t τ ht
 split at h
 ·
  rename_i e
  obtain⟨e',R2,hle⟩:=zq.slice
  split at h
  ·rename_i υ l hx
   obtain⟨e1,h⟩:=bA h
   subst e1
   obtain⟨ke,h⟩:=cG h
   obtain⟨h0,h1⟩:=vB ke
   have h1:n<(ℓ l:Int):=h1
   rw[hx]at hv
   simp only[VR]at hv
   have hv:=V.slice.1 hv
   simp only[Rd,fW,eL]at hv
   obtain⟨ad,cap,hu,akn,hr⟩:=hv
   obtain⟨b,off,rfl,hb,hM,cs,pH,kD⟩:=hr n.toNat ω
   refine bc (mh ho R2 hle hu T7 h0 h1) (hn _ _ _ _ _ M ν h (.refl hc.mem) ?_)
   simp only[VR]
   refine⟨b,_,rfl,hb,hM,cs,pH,?_⟩
   have:Rd w M e cs (γ l n.toNat e.zero):=by rw[lM l n.toNat e.zero ω];exact kD
   exact this
  ·rename_i id hx
   rw[hx]at hv
   simp only[VR]at hv
   obtain⟨_,hu⟩:=hv
   split at h
   ·rename_i e2 l bl
    obtain⟨he_,h_⟩:=dX h
    clear h
    subst he_
    have h:=h_
    clear h_
    obtain⟨ke,h⟩:=cG h
    obtain⟨h0,h1⟩:=vB ke
    have kO:=hc.mem.jQ id _ bl
    simp only[ER]at kO
    rcases kO with⟨rfl,_⟩|⟨b,cs,te,cap,hb,hg,hM,T1,hl,FF,hs,hr⟩
    ·simp at h1;omega
    ·rw[hb]at hu
     refine bc (mh ho R2 hle hu T7 h0 h1) (hn _ _ _ _ _ M ν h (.refl hc.mem) ?_)
     simp only[VR]
     refine⟨_,bl,?_⟩
     simp only[AR]
     exact⟨n.toNat,[],rfl,ω,trivial,b,_,_,hb,by simp[cF]⟩
   ·rename_i e2 l bl
    obtain⟨he_,h_⟩:=dX h
    clear h
    subst he_
    have h:=h_
    clear h_
    obtain⟨ke,h⟩:=cG h
    obtain⟨h0,h1⟩:=vB ke
    have kO:=hc.mem.jQ id _ bl
    simp only[ER]at kO
    obtain⟨kD,hhd⟩:=kO
    simp only[Rd,fW,eL]at kD
    obtain⟨ad,cap,hb,akn,hr⟩:=kD
    rcases hhd with⟨rfl,_⟩|⟨b,n2,c2,vm⟩
    ·simp at h1;omega
    ·rw[hb]at vm;cases vm
     rw[hb]at hu
     refine bc (mh ho R2 hle hu T7 h0 h1) (hn _ _ _ _ _ M ν h (.refl hc.mem) ?_)
     simp only[VR]
     refine⟨_,bl,?_⟩
     simp only[AR]
     exact⟨n.toNat,[],rfl,ω,trivial,b,_,_,hb,by simp[cF]⟩
   ·cases h
  ·cases h
 ·
  rename_i len e
  obtain⟨e',R2,hle⟩:=zq.arr
  split at h
  ·rename_i id p hx
   obtain⟨en,υ,bl,het,h⟩:=GZ h
   obtain⟨he_,h_⟩:=dX h
   clear h
   subst he_
   have h:=h_
   clear h_
   obtain⟨ke,h⟩:=cG h
   obtain⟨h0,h1⟩:=vB ke
   rw[hx]at hv
   simp only[VR]at hv
   obtain⟨en',uw,lQ⟩:=hv
   rw[bl]at uw;cases uw
   obtain⟨b,off,hu,akm⟩:=lQ.step het (.idx n.toNat) ⟨⟨len,e,rfl,ω⟩,trivial⟩
   refine bc (tD ho R2 hle hu T7 h0 h1) (hn _ _ _ _ _ M ν h (.refl hc.mem) ?_)
   simp only[VR]
   refine⟨en,bl,?_⟩
   simpa [cF,elT]using akm
  ·rename_i υ l hx
   obtain⟨e1,h⟩:=bA h
   subst e1
   obtain⟨ke,h⟩:=cG h
   obtain⟨h0,h1⟩:=vB ke
   rw[hx]at hv
   simp only[VR]at hv
   obtain⟨b,off,hu,hb,hM,cs,pH,hr⟩:=hv
   refine bc (tD ho R2 hle hu T7 h0 h1) (hn _ _ _ _ _ M ν h (.refl hc.mem) ?_)
   simp only[VR]
   exact⟨b,_,rfl,hb,hM,_,pH.sub _ e.size,hr.idx ω⟩
  ·cases h
 ·cases h
theorem E2(hc:Core c σ a.tmps w M ν){x:Operand}(ho:o.op= .nilCheck x){K:gS α}{id:Nat}{p:List Step}(hx:σ.ρ x= .jf id p)
  (h:K (.jf id p) [] []=some r) (hn:fJ c σ a o w M ν K r next):o.wp P a w next Q:=by
 have hv:=hc.ev x
 have R3:=hv
 rw[hx]at hv
 simp only[VR]at hv
 obtain⟨e,he,lQ⟩:=hv
 obtain⟨ad,hu⟩:=lQ.ptr
 refine bc (wF ho hu) (hn _ _ _ _ _ M ν h (.refl hc.mem) ?_)
 rw[←hu,←hx];exact R3
theorem CL(hc:Core c σ a.tmps w M ν){x:Operand}(ho:o.op= .nilCheck x){K:gS α}{τ:Ty}{z:τ.den}(hx:σ.ρ x= .sd τ z)
  (h:K (.sd τ z) [] []=some r) (hn:fJ c σ a o w M ν K r next):o.wp P a w next Q:=by
 have hv:=hc.ev x
 have R3:=hv
 rw[hx]at hv
 simp only[VR]at hv
 obtain⟨b,off,hu,_⟩:=hv
 refine bc (wF ho hu) (hn _ _ _ _ _ M ν h (.refl hc.mem) ?_)
 rw[←hu,←hx];exact R3
theorem jP.get{H:Nat→Option br}: ∀{qX:List bG} {vs:List Value},jP w M H ν qX vs→ ∀{i:Nat} {x:bG},qX[i]? =some x→ ∃v,vs[i]? =some v∧VR w M H ν x v
 |[],_,_,i,x,hx=>by simp at hx
 |y::qX,[],h,_,_,_=>by simp[jP]at h
 |y::qX,v::vs,h,0,x,hx=>by
  simp only[jP]at h
  simp at hx;subst hx
  exact⟨v,rfl,h.1⟩
 |y::qX,v::vs,h,i+1,x,hx=>by
  simp only[jP]at h
  exact jP.get h.2 (by simpa using hx)
theorem Si(hc:Core c σ a.tmps w M ν){x:Operand}{i:Nat}(ho:o.op= .extract x i){K:gS α}{vs:List bG}{v:bG}(hx:σ.ρ x= .tup vs)(hi:vs[i]? =some v)
  (h:K v [] []=some r) (hn:fJ c σ a o w M ν K r next):o.wp P a w next Q:=by
 have hv:=hc.ev x
 rw[hx]at hv
 simp only[VR]at hv
 obtain⟨us,hu,hvs⟩:=hv
 obtain⟨u,hui,hvu⟩:=hvs.get hi
 exact bc (GP ho hu hui) (hn _ _ _ _ _ M ν h (.refl hc.mem) hvu)
theorem Core.evs(hc:Core c σ a.tmps w M ν): ∀xs:List Operand,jP w M σ.H ν (xs.map σ.ρ) (xs.map a.eval)
 |[]=>by simp[jP]
 |x::xs=>by simp only[ca,jP];exact⟨hc.ev x,hc.evs xs⟩
theorem xJ: ∀{qX:List bG} {vs:List Value} {H:Nat→Option br} {M:Nat→Prop} {K:List bG→List Nat→js→Option α},Mem c H w M ν→jP w M H ν qX vs→xu H qX K=some r→
  ∃cs rd ups M',K cs rd ups=some r∧Tr c H w M ν (cU H ups) w M' ν∧jP w M' (cU H ups) ν cs vs
 |[],vs,H,M,K,hm,hv,h=>⟨[],[],[],M,h,.refl hm,hv⟩
 |x::xs,[],H,M,K,hm,hv,h=>by simp[jP]at hv
 |x::xs,v::vs,H,M,K,hm,hv,h=>by
  simp only[jP]at hv
  unfold xu at h
  split at h
  ·rename_i id
   split at h
   ·rename_i τ z bl
    obtain⟨M1,b,ht,hb,eU,hM,kf,pH,kD⟩:=Tr.fix hm bl
    obtain⟨cs,rd,ups,M2,hK,T6,hv2⟩:=xJ ht.mem (jP.ch ht.ch ht.goes hv.2) h
    refine⟨_,_,_,M2,hK,ht.trans T6,?_⟩
    have h1:VR w M1 (cm H id (some .gone)) ν (.sd τ z) v:=by
     have Sj:=hv.1
     simp only[VR]at Sj ⊢
     obtain⟨e,he,lQ⟩:=Sj
     rw[bl]at he;cases he
     simp only[AR]at lQ
     obtain⟨_,b',fb,Sj⟩:=lQ
     rw[hb]at fb;cases fb
     exact⟨b,0,Sj,eU,hM,kf,pH,kD⟩
    simp only[jP]
    exact⟨VR.ch T6.ch T6.goes h1,hv2⟩
   ·cases h
  ·obtain⟨cs,rd,ups,M2,hK,T6,hv2⟩:=xJ hm hv.2 h
   refine⟨_,_,_,M2,hK,T6,?_⟩
   simp only[jP]
   exact⟨VR.ch T6.ch T6.goes hv.1,hv2⟩
theorem Oq(hc:Core c σ a.tmps w M ν){f:FuncId}{first caps:Array Operand}(ho:o.op= .makeFunc (.func f) first caps){K:gS α}
  (h:cond first.isEmpty (xu σ.H (caps.toList.map σ.ρ) λcs rd ups=>K (.N7 f cs) rd ups) none=some r) (hn:fJ c σ a o w M ν K r next):o.wp P a w next Q:=by
 obtain⟨hf,h⟩:=cG h
 obtain⟨cs,rd,ups,M',hK,ht,hv⟩:=xJ hc.mem (hc.evs _) h
 refine bc (E0 ho (by simpa using hf)) (hn _ _ _ _ _ M' ν hK ht ?_)
 simp only[VR]
 exact⟨caps.toList.map a.eval,by congr 1;apply ia;simp,hv⟩
theorem Sk(hE:EnvTy P E)(hc:Core c σ a.tmps w M ν){s d:TypeId}{x:Operand}(ho:o.op= .convert s d x){K:gS α}{τ:Ty}{k:IntKind}(hs:E.ty s=some τ)(hd:E.ty d=some (.int k))
  (h:wR (σ.ρ x) (λ_ n=>K (.val (.int k) (W k n)) [] [])=some r) (hn:fJ c σ a o w M ν K r next):o.wp P a w next Q:=by
 obtain⟨k',n,hx,h⟩:=oq h
 have hv:=hc.ev x
 rw[hx]at hv
 refine bc (GQ ho (hE.ty s τ hs).isSome (hE.ty d _ hd).int hv.int) (hn _ _ _ _ _ M ν h (.refl hc.mem) ?_)
 rw[EY];exact .mkInt k _
end VM
end
