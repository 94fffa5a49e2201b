/- A part of the proof of BookAll of layer 18: a machine that reads a function of the program as an equation between values. -/
import Derived.Test.YtfdcmiodcijmmaaGreatVm1
import Derived.Great.BuildSlice
import Derived.Laws.Tables
set_option linter.all false
open List renaming length→ℓ, getD→γ
section
namespace VM
open Go
theorem gD{α:Type}{r:α}: ∀{τ:Ty} {x:τ.den} {n:Nat} {m:(υ:Ty)→υ.den→(υ.den→Option α)→Option α} {k:τ.den→Option α},dz τ x n m k=some r→
  ∃υ y o k',vy τ x n υ y o∧m υ y k'=some r∧ ∀z r',k' z=some r'→ ∃x',k x'=some r'∧vy τ x' n υ z o∧
   ∀(w:World) (M:Nat→Prop) cs cs',Rd w M τ cs x→Rd w M υ cs' z→Rd w M τ (cL cs o cs') x'
 | .pair a b,x,0,m,k,h=>by
  refine⟨a,x.1,0,_,.here x,h,λz r' hz=>⟨(z,x.2),hz,.here (a:=a) (b:=b) (z,x.2),λw M cs cs' hr fN=> ?_⟩⟩
  simp only[Rd]at hr ⊢
  obtain⟨c1,c2,rfl,h1,h2⟩:=hr
  refine⟨cs',c2,?_,fN,h2⟩
  rw[tq (by rw[fN.length,h1.length];omega)]
  congr 1
  unfold cL
  rw[dG,fN.length,←h1.length];simp
 | .pair a b,x,n+1,m,k,h=>by
  obtain⟨υ,y,o,k',hf,hm,hk⟩:=gD (τ:=b) (x:=x.2) (n:=n) (m:=m) (k:=λz=>k (x.1,z)) h
  refine⟨υ,y,_,k',.there x hf,hm,λz r' hz=> ?_⟩
  obtain⟨x',k9,sa,gK⟩:=hk z r' hz
  refine⟨(x.1,x'),k9,.there (a:=a) (b:=b) (x.1,x') sa,λw M cs cs' hr fN=> ?_⟩
  simp only[Rd]at hr ⊢
  obtain⟨c1,c2,rfl,h1,h2⟩:=hr
  refine⟨c1,_,?_,h1,gK w M c2 cs' h2 fN⟩
  rw[←h1.length,qU]
 | .int _,_,_,_,_,h| .bool,_,_,_,_,h| .str,_,_,_,_,h| .slice _,_,_,_,_,h| .unit,_,_,_,_,h| .arr _ _,_,_,_,_,h=>by simp[dz]at h
def kf(w:World)(M:Nat→Prop)(e:Ty)(cs:List Value)(l:List e.den):Prop:=
 ∀i (h:i<l.length),Rd w M e ((cs.drop (i*e.size)).take e.size) l[i]
theorem cE{i n s:Nat}(h:i<n):i*s+s≤n*s:=by
 have:(i+1)*s≤n*s:=gh _ h
 rw[cI,gw]at this;exact this
theorem kf.set{w:World}{M:Nat→Prop}{e:Ty}{cs:List Value}{l:List e.den}(h:kf w M e cs l)(hl:l.length*e.size≤cs.length){i:Nat}(hi:i<l.length){cs':List Value}{y:e.den}(hr:Rd w M e cs' y):
  kf w M e (cL cs (i*e.size) cs') (l.set i y):=by
 have hlen:=hr.length
 intro j hj
 rw[cz]at hj
 have h1:=cE (s:=e.size) hi
 have h2:=cE (s:=e.size) hj
 by_cases ns:j=i
 ·subst ns
  have:=RZ (a:=cs) (o:=j*e.size) (new:=cs') ω
  rw[hlen]at this
  rw[this,List.getElem_set_self];exact hr
 ·rw[w1 (by
   rcases Nat.lt_or_gt_of_ne ns with dv|dv
   ·have:=cE (s:=e.size) dv;left;omega
   ·have:=cE (s:=e.size) dv;right;omega) ω,List.getElem_set_ne (cZ ns)]
  exact h j hj
theorem kf.append{w:World}{M:Nat→Prop}{e:Ty}{c1 c2:List Value}{l1 l2:List e.den}(h1:kf w M e c1 l1)(hl:c1.length=l1.length*e.size)(h2:kf w M e c2 l2):kf w M e (c1++c2) (l1++l2):=by
 intro i hi
 by_cases dv:i<l1.length
 ·have:=cE (s:=e.size) dv
  rw[sP ω,qQ (by rw[dZ];omega),sS dv]
  exact h1 i dv
 ·rw[aC]at hi
  obtain⟨k,rfl⟩: ∃k,i=l1.length+k:=⟨i-l1.length,ω⟩
  rw[cI,←hl,←eK,kd rfl,xr ω]
  simp only[sU]
  exact h2 k ω
theorem kf.take{w:World}{M:Nat→Prop}{e:Ty}{cs:List Value}{l:List e.den}(h:kf w M e cs l){n:Nat}(hn:l.length*e.size≤n):kf w M e (cs.take n) l:=by
 intro i hi
 have:=cE (s:=e.size) hi
 rw[mj,mm,fb ω]
 exact h i hi
theorem kf.more{w:World}{M:Nat→Prop}{e:Ty}{cs cs':List Value}{l:List e.den}(h:kf w M e cs l)(hl:l.length*e.size≤cs.length):kf w M e (cs++cs') l:=by
 intro i hi
 have:=cE (s:=e.size) hi
 rw[sP ω,qQ (by rw[dZ];omega)]
 exact h i hi
theorem kf.bm{w w':World}{M M':Nat→Prop}(k:dq w M w' M'){e:Ty}{cs:List Value}{l:List e.den}(h:kf w M e cs l):kf w' M' e cs l:=λi hi=>(h i hi).bm k
theorem Rd.arr{w:World}{M:Nat→Prop}{n:Nat}{e:Ty}{cs:List Value}{x:(Ty.arr n e).den}:Rd w M (.arr n e) cs x↔ℓ x=n∧cs.length=n*e.size∧kf w M e cs x:=by
 constructor
 ·intro h
  have hl:=h.length
  have h':=h
  simp only[Rd]at h'
  refine⟨h'.1,hl,λi hi=> ?_⟩
  have:=h.idx (i:=i) ω
  rw[gP x i e.zero hi]at this
  exact this
 ·rintro⟨hn,hl,hr⟩
  simp only[Rd]
  refine⟨hn,(List.range n).map λi=>(cs.drop (i*e.size)).take e.size,by simp,?_,λi hi po=> ?_⟩
  ·
   have key: ∀m (l:List Value),l.length=m*e.size→l=((List.range m).map λi=>(l.drop (i*e.size)).take e.size).flatten:=by
    intro m
    induction m with
    |zero=>intro l hl;simpa using hl
    |succ m ih=>
     intro l hl
     have h1:(l.take (m*e.size)).length=m*e.size:=by rw[bV,hl,cI];omega
     have h2:=ih (l.take (m*e.size)) h1
     rw[xJ,cH,List.flatten_append]
     have h3:((List.range m).map λi=>(l.drop (i*e.size)).take e.size)=(List.range m).map λi=>((l.take (m*e.size)).drop (i*e.size)).take e.size:=by
      apply nh
      intro i hi
      have:=cE (s:=e.size) (s6.1 hi)
      rw[mj,mm,fb ω]
     rw[h3,←h2]
     simp only[bA,eL,sY,List.flatten_nil,bF]
     rw[jf (l:=l.drop (m*e.size)) (by rw[dZ,hl,cI];omega),gg]
   exact key n cs hl
  ·simp only[List.getElem_map,xC]
   exact hr i hi
theorem kA{α:Type}{r:α}{υ:Ty}{y:υ.den}: ∀{p:List Step} {τ:Ty} {x:τ.den} {k:τ.den→Option α},pF υ y p τ x k=some r→
  ∃z,k z=some r∧z7 p τ=υ∧(rI p τ→bs p τ+υ.size≤τ.size)∧ ∀(w:World) (M:Nat→Prop) cs cs',rI p τ→Rd w M τ cs x→Rd w M υ cs' y→Rd w M τ (cL cs (bs p τ) cs') z
 |[],τ,x,k,h=>by
  obtain⟨e,h⟩:=aJ (h:bw υ τ y k=some r)
  subst e
  refine⟨y,h,rfl,λ_=>by simp[bs],λw M cs cs' _ hr fN=> ?_⟩
  unfold cL
  rw[show bs [] υ=0 from rfl,dG,fN.length,←hr.length]
  simpa using fN
 | .fG n::p,τ,x,k,h=>by
  obtain⟨υ',y',o,k',hf,hm,hk⟩:=gD (h:dz τ x n _ k=some r)
  obtain⟨z',w3,ht,zR,gK⟩:=kA (p:=p) (τ:=υ') (x:=y') (k:=k') hm
  obtain⟨x',k9,sa,IE⟩:=hk z' r w3
  obtain⟨h1,h2⟩:=hf.eq
  subst h1 h2
  refine⟨x',k9,ht,λhi=>by have:=hf.bound;have:=zR hi;simp only[bs];omega,λw M cs cs' hi hr fN=> ?_⟩
  have zR:=zR hi
  have h3:=gK w M _ cs' hi (hf.rd hr) fN
  have h4:=IE w M cs _ hr h3
  have hb:=hf.bound
  have NB:=hr.length
  have hl2:=fN.length
  have M7:=h3.length
  have hJ:bs p (m3 τ n)+cs'.length≤((cs.drop (dO τ n)).take (m3 τ n).size).length:=by
   rw[bV,dZ];omega
  have:cL cs (dO τ n) (cL ((cs.drop (dO τ n)).take (m3 τ n).size) (bs p (m3 τ n)) cs')=cL cs (dO τ n+bs p (m3 τ n)) cs':=by
   have e1:cs=cs.take (dO τ n)++(((cs.drop (dO τ n)).take (m3 τ n).size)++cs.drop (dO τ n+(m3 τ n).size)):=by
    rw[←eK,gg,gg]
   have dv:(cs.take (dO τ n)).length=dO τ n:=by rw[bV];omega
   conv=>rhs;rw[e1]
   rw[show dO τ n+bs p (m3 τ n)=(cs.take (dO τ n)).length+bs p (m3 τ n)from by rw[dv],qU,tq hJ]
   generalize cL ((cs.drop (dO τ n)).take (m3 τ n).size) (bs p (m3 τ n)) cs'=m at M7 ⊢
   unfold cL
   rw[M7,aT]
  simp only[bs]
  rw[←this]
  exact h4
 | .idx i::p,τ,x,k,h=>by
  cases τ with
  |arr n e=>
   obtain⟨z',w3,ht,zR,gK⟩:=kA (p:=p) (τ:=e) (x:=γ x i e.zero) (k:=λz=>k (List.set x i z)) h
   refine⟨_,w3,ht,λhi=>by
    obtain⟨⟨n',e',he,hJ⟩,po⟩:=hi
    cases he
    have:=zR po
    have hm:=cE (s:=e.size) hJ
    simp only[bs,RX,Ty.size];omega,λw M cs cs' hi hr fN=> ?_⟩
   obtain⟨⟨n',e',he,hJ⟩,po⟩:=hi
   cases he
   have h3:=gK w M _ cs' po (hr.idx hJ) fN
   obtain⟨hn,NB,Gp⟩:=Rd.arr.1 hr
   have hm:=cE (s:=e.size) hJ
   have h4:=Gp.set (by rw[NB,hn];exact aB _) (i:=i) ω h3
   have hl2:=fN.length
   have M7:=h3.length
   have hch:((cs.drop (i*e.size)).take e.size).length=e.size:=by rw[bV,dZ];omega
   have zR:=zR po
   have aau:bs p e+cs'.length≤((cs.drop (i*e.size)).take e.size).length:=ω
   have:cL cs (i*e.size) (cL ((cs.drop (i*e.size)).take e.size) (bs p e) cs')=cL cs (i*e.size+bs p e) cs':=by
    have e1:cs=cs.take (i*e.size)++(((cs.drop (i*e.size)).take e.size)++cs.drop (i*e.size+e.size)):=by
     rw[←eK,gg,gg]
    have dv:(cs.take (i*e.size)).length=i*e.size:=by rw[bV];omega
    conv=>rhs;rw[e1]
    rw[show i*e.size+bs p e=(cs.take (i*e.size)).length+bs p e from by rw[dv],qU,tq aau]
    generalize cL ((cs.drop (i*e.size)).take e.size) (bs p e) cs'=m at M7 ⊢
    unfold cL
    rw[M7,aT]
   simp only[bs,RX]
   rw[←this]
   refine Rd.arr.2 ⟨by rw[cz];exact hn,?_,h4⟩
   rw[cK (by rw[M7];omega)];exact NB
  |_=>simp[pF,wX]at h
theorem Rd.V3{w:World}{M:Nat→Prop}{τ υ:Ty}{cs:List Value}{x:τ.den}(e:τ=υ)(h:Rd w M τ cs x):Rd w M υ cs (e▸x):=by subst e;exact h
theorem yb{α:Type}{r:α}{e:Ty}{l:List e.den}: ∀{τ:Ty} {n:Nat} {z:τ.den} {k:τ.den→Option α},dz τ z n (fun υ' _ k'=>bw (.slice e) υ' l k') k=some r→
  ∃x,k x=some r∧dz τ z n (fun υ' _ k'=>bw (.slice e) υ' l k') some=some x∧oF τ x n (fun υ y=>bw υ (.slice e) y some)=some l∧ ∀l':List e.den,∃z0,
   (∀(β:Type) (k':τ.den→Option β),dz τ x n (fun υ' _ k'=>bw (.slice e) υ' l' k') k'=k' z0)∧ ∀(β:Type) (k':τ.den→Option β),dz τ z n (fun υ' _ k'=>bw (.slice e) υ' l' k') k'=k' z0
 | .pair a b,0,z,k,h=>by
  have h1:bw (.slice e) a l (λw=>k (w,z.2))=some r:=h
  obtain⟨e1,h2⟩:=aJ h1
  clear h1 h
  subst e1
  exact⟨_,h2,by simp[dz,bw],by simp[oF,bw],λl'=>⟨(l',z.2),λβ k'=>by simp[dz,bw],λβ k'=>by simp[dz,bw]⟩⟩
 | .pair a b,n+1,z,k,h=>by
  obtain⟨x,h1,h0,h2,h3⟩:=yb (τ:=b) (n:=n) (z:=z.2) (k:=λw=>k (z.1,w)) h
  refine⟨(z.1,x),h1,?_,h2,λl'=> ?_⟩
  ·obtain⟨z0,h4,h5⟩:=h3 l
   have h6:=h5 _ some
   rw[h0]at h6
   cases h6
   exact h5 _ λw=>some (z.1,w)
  obtain⟨z0,h4,h5⟩:=h3 l'
  exact⟨(z.1,z0),λβ k'=>h4 β λw=>k' (z.1,w),λβ k'=>h5 β λw=>k' (z.1,w)⟩
 | .int _,_,_,_,h| .bool,_,_,_,h| .str,_,_,_,h| .slice _,_,_,_,h| .unit,_,_,_,h| .arr _ _,_,_,_,h=>by simp[dz]at h
end VM
end
section
namespace VM
open Go
variable{P:Program}{E:Env}{o:Oper}{a:Act}{w:World}{M:Nat→Prop}{ν:Nat→Value}{σ:St}{c:Ctx}{α:Type}{r:α}{next:Act→World→Prop}{Q:Exit→Act→World→Prop}
theorem aA{v:Value}{w':World}(h:(execOp a.eval o).run P w= .ok (.value v) w')(hn:next (a.put o.dst v) w'):o.wp P a w next Q:=by
 unfold Oper.wp Oper.upon;rw[h];exact hn
theorem jM{w':World}(h:(execOp a.eval o).run P w= .ok .skip w')(hn:next (a.put o.dst undef) w'):o.wp P a w next Q:=by
 unfold Oper.wp Oper.upon;rw[h];exact hn
def dt(c:Ctx)(σ:St)(a:Act)(o:Oper)(w:World)(M:Nat→Prop)(ν:Nat→Value)(K:eo α)(r:α)(next:Act→World→Prop):Prop:=
 ∀v rd ups v' w' M' ν',K v rd ups=some r→Tr c σ.H w M ν (bM σ.H ups) w' M' ν'→VR w' M' (bM σ.H ups) ν' v v'→next (a.put o.dst v') w'
theorem Core.ev(h:Core c σ a.tmps w M ν)(x:Operand):VR w M σ.H ν (σ.ρ x) (a.eval x):=h.op a.defers x
theorem jo{x:aM}{k:IntKind→Int→Option α}(h:pG x k=some r): ∃(i:IntKind) (n:Int),x= .val (.int i) n∧k i n=some r:=by
 unfold pG at h
 split at h
 ·exact⟨_,_,rfl,h⟩
 ·cases h
theorem VR.int{H:Nat→Option aI}{k:IntKind}{n:Int}{v:Value}(h:VR w M H ν (.val (.int k) n) v):v= .int k n:=by
 simp only[VR,V,Ty.isAgg,fD,dW,Rd,dx,dR]at h;exact h
theorem VR.bool{H:Nat→Option aI}{b:Bool}{v:Value}(h:VR w M H ν (.val .bool b) v):v= .bool b:=by
 simp only[VR,V,Ty.isAgg,fD,dW,Rd,dx,dR]at h;exact h
theorem VR.str{H:Nat→Option aI}{b:ByteArray}{v:Value}(h:VR w M H ν (.val .str b) v):v= .string b:=by
 simp only[VR,V,Ty.isAgg,fD,dW,Rd,dx,dR]at h;exact h
theorem VR.mkInt{H:Nat→Option aI}(k:IntKind)(n:Int):VR w M H ν (.val (.int k) n) (.int k n):=by simp[VR,V,Ty.isAgg,Rd]
theorem VR.oJ{H:Nat→Option aI}(b:Bool):VR w M H ν (.val .bool b) (.bool b):=by simp[VR,V,Ty.isAgg,Rd]
theorem VR.mkStr{H:Nat→Option aI}(b:ByteArray):VR w M H ν (.val .str b) (.string b):=by simp[VR,V,Ty.isAgg,Rd]
theorem HF(hc:Core c σ a.tmps w M ν){x:Operand}(ho:o.op= .move x∨o.op= .assign x){K:eo α}(h:K (σ.ρ x) [] []=some r)(hn:dt c σ a o w M ν K r next):o.wp P a w next Q:=by
 have hr:(execOp a.eval o).run P w= .ok (.value (a.eval x)) w:=by
  rcases ho with ho|ho
  ·simp[execOp,ho]
  ·simp[execOp,ho]
 exact aA hr (hn _ _ _ _ _ _ _ h (.refl hc.mem) (hc.ev x))
theorem NC(hc:Core c σ a.tmps w M ν){x y z:Operand}(ho:o.op= .pick x y z){K:eo α}{t:Bool}(hx:σ.ρ x= .val .bool t)(h:cond t (K (σ.ρ y) [] []) (K (σ.ρ z) [] [])=some r)
  (hn:dt c σ a o w M ν K r next):o.wp P a w next Q:=by
 have hv:=hc.ev x
 rw[hx]at hv
 refine aA (Dt ho hv.bool) ?_
 cases t
 ·exact hn _ _ _ _ _ _ _ h (.refl hc.mem) (hc.ev z)
 ·exact hn _ _ _ _ _ _ _ h (.refl hc.mem) (hc.ev y)
theorem il{H:Nat→Option aI}{id:Nat}{e:aI}{K:Option α}(h:mz H id e K=some r):H id=none∧K=some r:=by
 unfold mz at h
 split at h
 ·rename_i h';exact⟨h',h⟩
 ·cases h
theorem VR.QW{H:Nat→Option aI}{id:Nat}{τ:Ty}{x:τ.den}{b:Nat}(aF:H id=some (.obj τ x))(hν:ν id= .pointer (some ⟨b,0,none⟩)):VR w M H ν (.ft id []) (.pointer (some ⟨b,0,none⟩)):=by
 simp only[VR]
 exact⟨_,aF,trivial,b,hν,rfl⟩
theorem VR.Kz{H:Nat→Option aI}{id:Nat}{τ:Ty}{x:τ.den}{q:List Step}{j b:Nat}(aF:H id=some (.dT τ x q j))(hν:ν id= .pointer (some ⟨b,0,none⟩)):VR w M H ν (.ft id []) (.pointer (some ⟨b,0,none⟩)):=by
 simp only[VR]
 exact⟨_,aF,trivial,b,hν,rfl⟩
theorem di(τ:Ty):(aZ τ τ.bq).cells.toList=τ.bq:=z6 (Rd.zero default (λ_=>False) τ)
theorem Du: ∀{τ:Ty} {n:Nat} {a:Ty},ti τ n=some a→ ∃l m,τ.bq=l++(a.bq++m)∧l.length=dO τ n:=by
 intro τ
 induction τ with
 |pair a b _ Ky=>
  intro n c h
  cases n with
  |zero=>cases h;exact⟨[],b.bq,rfl,rfl⟩
  |succ n=>
   obtain⟨l,m,h1,h2⟩:=Ky (n:=n) (a:=c) h
   refine⟨a.bq++l,m,by simp only[Ty.bq];rw[h1,aT],?_⟩
   rw[aC,h2,(Rd.zero default (λ_=>False) a).length];rfl
 |_=>intro n c h;simp[ti]at h
theorem tx: ∀{p:List Step} {τ υ:Ty},dE p τ υ=true→ ∃l m,τ.bq=l++(υ.bq++m)∧l.length=bs p τ
 |[],τ,υ,h=>by
  have h:=bH h
  subst h
  exact⟨[],[],by simp,rfl⟩
 | .fG n::p,τ,υ,h=>by
  unfold dE at h
  split at h
  ·rename_i a ha
   obtain⟨l,m,h1,h2⟩:=Du ha
   obtain⟨l',m',h3,h4⟩:=tx h
   obtain⟨_,_,hf⟩:=jm ha τ.zero
   have:=hf.eq.1
   subst this
   refine⟨l++l',m'++m,by rw[h1,h3];simp,?_⟩
   rw[aC,h2,h4];rfl
  ·cases h
 | .idx _::_,_,_,h=>by simp[dE]at h
theorem uG{p:List Step}{τ e:Ty}(h:dE p τ (.slice e)=true):τ.bq[bs p τ]? =some (.slice none 0 0):=by
 obtain⟨l,m,h1,h2⟩:=tx h
 rw[h1,lH ω,h2,Nat.sub_self];rfl
theorem bn{b:Bool}{K:Option α}(h:cond b K none=some r):b=true∧K=some r:=by
 cases b
 ·cases h
 ·exact⟨rfl,h⟩
theorem BI{τ:Ty}{q:List Step}{e:Ty}(h:VX E τ=some (q,e)):dE q τ (.slice e)=true:=by
 unfold VX at h
 split at h
 ·rename_i υ q' e' _ _
  cases hd:decide (υ=τ)<;>rw[hd]at h
  ·cases h
  ·simp only[aa]at h
   cases hp:dE q' τ (.slice e')<;>rw[hp]at h
   ·cases h
   ·cases h;exact hp
 ·cases h
theorem mE{τ:Ty}{id:Nat}{q:List Step}{e:Ty}(h:z5 E τ id=some (q,e)):dE q τ (.slice e)=true:=by
 unfold z5 at h
 split at h
 ·exact BI (bn h).2
 ·cases h
theorem yc{H:Nat→Option aI}{id:Nat}{τ:Ty}{x:τ.den}{q:List Step}{e:Ty}{K:eo α}(h:wB H id τ x q e K=some r):H id=none∧H (id+1)=none∧K (.ft id []) [id,id+1] [(id,some (.dT τ x q (id+1))),(id+1,some (.own e []))]=some r:=by
 unfold wB at h
 obtain⟨h1,h⟩:=il h
 obtain⟨h2,h⟩:=il h
 exact⟨h1,h2,h⟩
theorem IG{H:Nat→Option aI}{i j:Nat}{u v:Option aI}(h:i≠j):a8 (a8 H i u) j v=a8 (a8 H j v) i u:=by
 funext k
 by_cases hi:k=i
 ·subst hi;rw[aq _ _ h,al,al]
 ·by_cases hj:k=j
  ·subst hj;rw[al,aq _ _ hi,al]
  ·rw[aq _ _ hj,aq _ _ hi,aq _ _ hi,aq _ _ hj]
theorem se{H:Nat→Option aI}{i:Nat}{u v:Option aI}:a8 (a8 H i u) i v=a8 H i v:=by
 funext k
 by_cases hi:k=i
 ·subst hi;rw[al,al]
 ·rw[aq _ _ hi,aq _ _ hi,aq _ _ hi]
theorem Tr.KA{H:Nat→Option aI}(h:Mem c H w M ν){id k:Nat}(hk:H k=none){τ:Ty}{x:τ.den}(aF:H id=some (.obj τ x)){b:Nat}{cs:Array Value}{t:TypeId}(hb:ν id= .pointer (some ⟨b,0,none⟩))(hg:w.heap[b]? =some (.cells cs t (0,0)))
  {q:List Step} {e:Ty} (hq:dE q τ (.slice e)=true) {ad:Option Addr} (hz:cs.toList[bs q τ]? =some (.slice ad 0 0)):
  Tr c H w M ν (bM H [(id,some (.dT τ x q k)),(k,some (.own e []))]) w M (updν ν k (.slice ad 0 0)):=by
 have gY:k≠id:=λe=>by rw[e,aF]at hk;cases hk
 have h2:=Tr.nothing h hk e ad
 have V4:a8 H k (some (.own e [])) id=some (.obj τ x):=by rw[aq _ _ (cZ gY)];exact aF
 have hν:updν ν k (.slice ad 0 0) id= .pointer (some ⟨b,0,none⟩):=by unfold updν;rw[af (cZ gY)];exact hb
 have hν1:updν ν k (.slice ad 0 0) k= .slice ad 0 0:=by simp[updν]
 have he:=h2.mem.fM id _ V4
 simp only[ER]at he
 obtain⟨b',cs',t',cY,ZY,hM,gK⟩:=he
 rw[hν]at cY;cases cY
 rw[hg]at ZY;cases ZY
 have h3:=Tr.V1 h2.mem V4 trivial (e':= .dT τ x q k) trivial rfl (λ_ _=>by simp) (by
   rw[hν];simp only[ER]
   exact⟨_,cs,t,cs.toList,.slice ad 0 0,rfl,hg,hM,gK,(xS hz).symm,rfl,e,hq⟩)
  (fun τ' x' p' j' hl=>by
   cases hl
   refine⟨by rw[al];simp,_,hν,?_⟩
   rw[hν1,cell_of hg,←eI];exact hz)
 rw[IG (i:=k) (j:=id) gY]at h3
 exact h2.trans h3
theorem Tr.wB{H:Nat→Option aI}(h:Mem c H w M ν){id:Nat}(aF:H id=none)(k6:H (id+1)=none)(t:TypeId){τ:Ty}{cs:Array Value}{x:τ.den}(hr:Rd w M τ cs.toList x){q:List Step}{e:Ty}(hq:dE q τ (.slice e)=true){ad:Option Addr}
  (hz:cs.toList[bs q τ]? =some (.slice ad 0 0)):
  ∃M' ν',Tr c H w M ν (bM H [(id,some (.dT τ x q (id+1))),(id+1,some (.own e []))]) (w.alloc (.cells cs t)) M' ν'∧ν' id= .pointer (some ⟨w.heap.size,0,none⟩):=by
 have h1:=Tr.var h aF t hr
 have h2:=Tr.KA h1.mem (id:=id) (k:=id+1) (by rw[aq _ _ ω];exact k6) (al _ _ _) (by simp[updν]) (xV w _) hq hz
 have e1:bM (a8 H id (some (.obj τ x))) [(id,some (.dT τ x q (id+1))),(id+1,some (.own e []))]=bM H [(id,some (.dT τ x q (id+1))),(id+1,some (.own e []))]:=by
  show a8 (a8 (a8 H id _) id _) (id+1) _=a8 (a8 H id _) (id+1) _
  rw[se]
 rw[e1]at h2
 exact⟨_,_,h1.trans h2,by simp[updν]⟩
theorem KB(hE:EnvTy P E)(hc:Core c σ a.tmps w M ν){t:TypeId}(ho:o.op= .alloc t){K:eo α}{τ:Ty}(ht:E.ty t=some τ){id:Nat}
  (h:(match z5 E τ id with
   |some (q,e)=>wB σ.H id τ τ.zero q e K
   |none=>mz σ.H id (.obj τ τ.zero) (K (.ft id []) [id] [(id,some (.obj τ τ.zero))]))=some r) (hn:dt c σ a o w M ν K r next):o.wp P a w next Q:=by
 obtain⟨i,hi,hs,hz,_⟩:=(hE.ty t τ ht).base
 have hr:Rd w M τ (aZ τ τ.bq).cells.toList τ.zero:=by rw[di];exact Rd.zero w M τ
 split at h
 ·rename_i q e lB
  obtain⟨aF,k6,h⟩:=yc h
  obtain⟨M',ν',dP,hν⟩:=Tr.wB hc.mem aF k6 t hr (mE lB) (by rw[di];exact uG (mE lB))
  refine aA (tv ho hi hz w) (hn _ _ _ _ _ M' ν' h dP ?_)
  exact VR.Kz (by show a8 _ (id+1) _ id=_;rw[aq _ _ ω,al]) hν
 ·obtain⟨aF,h⟩:=il h
  refine aA (tv ho hi hz w) (hn _ _ _ _ _ _ _ h (Tr.var hc.mem aF t hr) (VR.QW (al _ _ _) (by simp[updν])))
theorem HG(hE:EnvTy P E)(hc:Core c σ a.tmps w M ν){t:TypeId}{x:Operand}(ho:o.op= .box t x){K:eo α}{τ:Ty}{id:Nat}
  (h:iH true (σ.ρ x) σ.H τ (λy rd ups=>mz σ.H id (.obj τ y) (K (.ft id []) (id::rd) (ups++[(id,some (.obj τ y))])))=some r) (hn:dt c σ a o w M ν K r next):o.wp P a w next Q:=by
 obtain⟨y,rd,ups,M',h,dP,hV,hz,_⟩:=gC (.refl _) hc.mem (hc.ev x) h
 obtain⟨aF,h⟩:=il h
 have R1:bM σ.H ups id=none:=hz.none aF
 have qm:=dP.trans (Tr.var dP.mem R1 t hV.cells)
 refine aA (xW ho w) (hn _ _ _ _ _ (λb=>M' b∨b=w.heap.size) (updν ν id (.pointer (some ⟨w.heap.size,0,none⟩))) h ?_ ?_)
 ·rw[dr];exact qm
 ·rw[dr];exact VR.QW (al _ _ _) (by simp[updν])
theorem R2(hE:EnvTy P E)(hc:Core c σ a.tmps w M ν){t:TypeId}{x:Operand}(ho:o.op= .box t x){K:eo α}{τ:Ty}{id:Nat}
  (h:(match z5 E τ id,σ.ρ x with
   |some ([.fG m],e),.BB υ y n=>cond (Nat.beq m n) (bw υ τ y λy=>wB σ.H id τ y [.fG m] e K) (iH true (σ.ρ x) σ.H τ (λy rd ups=>mz σ.H id (.obj τ y) (K (.ft id []) (id::rd) (ups++[(id,some (.obj τ y))]))))
   |_,_=>iH true (σ.ρ x) σ.H τ (λy rd ups=>mz σ.H id (.obj τ y) (K (.ft id []) (id::rd) (ups++[(id,some (.obj τ y))]))))=some r) (hn:dt c σ a o w M ν K r next):o.wp P a w next Q:=by
 split at h
 ·rename_i m e υ y n lB hx
  cases hb:Nat.beq m n
  ·rw[hb]at h
   exact HG hE hc ho h hn
  ·rw[hb]at h
   have w4:=df hb
   subst w4
   simp only[aa]at h
   obtain⟨e1,h⟩:=aJ h
   subst e1
   obtain⟨aF,k6,h⟩:=yc h
   have hv:=hc.ev x
   rw[hx]at hv
   simp only[VR]at hv
   obtain⟨hV,cs,ad,V5,hz⟩:=hv
   have nO:(a.eval x).cells.toList=cs.toList:=by rw[V5];rfl
   obtain⟨M',ν',dP,hν⟩:=Tr.wB hc.mem aF k6 t hV.cells (mE lB) (ad:=ad) (by rw[nO];simpa [bs]using hz)
   refine aA (xW ho w) (hn _ _ _ _ _ M' ν' h dP ?_)
   exact VR.Kz (by show a8 _ (id+1) _ id=_;rw[aq _ _ ω,al]) hν
 ·exact HG hE hc ho h hn
theorem oK{i:Int}{n:Nat}(h:bJ i n=true):0≤i∧i<(n:Int):=by rw[Ku]at h;simpa using h
theorem iW{b:Bool}{K:Option α}(h:cond b none K=some r):b=false∧K=some r:=by
 cases b
 ·exact⟨rfl,h⟩
 ·cases h
theorem vC(hm:Mem c σ.H w M ν){x:aM}{u:Value}(hv:VR w M σ.H ν x u){K:(υ:Ty)→υ.den→List Nat→Option α}(h:gX x σ.H K=some r):
  ∃υ y rd,K υ y rd=some r∧ ∃b off cs,u= .pointer (some ⟨b,off,none⟩)∧At w b off cs∧Rd w M υ cs y:=by
 unfold gX at h
 split at h
 ·simp only[VR]at hv
  obtain⟨b,off,rfl,_,_,cs,ha,hr⟩:=hv
  exact⟨_,_,_,h,b,off,cs,rfl,ha,hr⟩
 ·rename_i id p
  simp only[VR]at hv
  obtain⟨e,he,gT⟩:=hv
  have hQ:=hm.fM id e he
  rw[he]at h
  cases e with
  |obj τ x=>
   obtain⟨υ,y,o',hp,hK⟩:=gB h
   simp only[AR]at gT
   obtain⟨hi,b,hb,rfl⟩:=gT
   simp only[ER]at hQ
   obtain⟨b',cs,t,cY,hg,_,hr⟩:=hQ
   rw[hb]at cY;cases cY
   have:=hp.eq.2
   subst this
   exact⟨υ,y,_,hK,b,_,_,rfl,At.of_block hg _ _,hp.rd hi hr⟩
  |own e l=>
   simp only[AR]at gT
   obtain⟨i,q,rfl,tz,hi,b,n,cp,hb,rfl⟩:=gT
   obtain⟨υ,y,o',hp,hK⟩:=gB h
   simp only[ER]at hQ
   rcases hQ with⟨rfl,_⟩|⟨b',cs,t,cap,cY,hg,_,IH,hl,zP,hs,hr⟩
   ·simp at tz
   ·rw[hb]at cY;cases cY
    have:=hp.eq.2
    subst this
    have h1:=hr i tz
    rw[←gP l i e.zero tz]at h1
    have h2:=hp.rd hi h1
    have h3:=hp.bound hi
    rw[mj,eK,mm,fb ω]at h2
    exact⟨υ,y,_,hK,b,_,_,rfl,At.of_block hg _ _,h2⟩
  |ke e l=>
   simp only[AR]at gT
   obtain⟨i,q,rfl,tz,hi,b,n,cp,hb,rfl⟩:=gT
   obtain⟨υ,y,o',hp,hK⟩:=gB h
   simp only[ER]at hQ
   have gK:=hQ.1
   simp only[Rd,dx,dR]at gK
   obtain⟨a0,cap,ha0,_,hr⟩:=gK
   obtain⟨b',off,rfl,_,_,cs,m2,V6⟩:=hr i tz
   rw[hb]at ha0;cases ha0
   have:=hp.eq.2
   subst this
   rw[dG]at m2
   have V7:Rd w M e cs (γ l i e.zero):=by rw[gP l i e.zero tz];exact V6
   have h2:=hp.rd hi V7
   have h3:=hp.bound hi
   have NB:=V7.length
   refine⟨υ,y,_,hK,b,_,_,rfl,?_,h2⟩
   intro j v hj
   rw[iA]at hj
   split at hj
   ·rw[iB]at hj
    have:=m2 _ v hj
    rwa [←kt]at this
   ·cases hj
  |dT _ _ _ _=>cases h
  |gone=>cases h
 ·cases h
theorem Mem.linked{H:Nat→Option aI}(hm:Mem c H w M ν){id:Nat}{τ:Ty}{x:τ.den}{q:List Step}{j:Nat}(aF:H id=some (.dT τ x q j)):
  ∃b cs t fR e,ν id= .pointer (some ⟨b,0,none⟩)∧w.heap[b]? =some (.cells cs t (0,0))∧M b∧Rd w M τ fR x∧cs.toList=cL fR (bs q τ) [ν j]∧(ν j).oneCell'=true∧dE q τ (.slice e)=true∧bs q τ<fR.length∧H j≠none:=by
 have hQ:=hm.fM id _ aF
 simp only[ER]at hQ
 obtain⟨b,cs,t,fR,u,hb,hg,hM,hr,nO,h1,e,hq⟩:=hQ
 obtain⟨hj,b',cY,HH⟩:=hm.dT id _ _ _ _ aF
 rw[hb]at cY;cases cY
 obtain⟨y,o,hp⟩:=oe hq x
 have dv:bs q τ<fR.length:=by
  have:=hp.bound (gQ hq).1
  have h2:=hp.eq.2
  have h3:=hr.length
  have:(Ty.slice e).size=1:=rfl
  omega
 have hu:u=ν j:=by
  rw[cell_of hg,←eI,nO,qV dv]at HH
  exact mi HH
 subst hu
 exact⟨b,cs,t,fR,e,hb,hg,hM,hr,nO,h1,hq,dv,hj⟩
theorem sf{H:Nat→Option aI}(hm:Mem c H w M ν){id:Nat}{τ:Ty}{x:τ.den}{q:List Step}{j:Nat}(aF:H id=some (.dT τ x q j)){k:τ.den→fu→Option α}(h:wA j q τ x H k=some r):
  ∃z ups M',k z ups=some r∧Tr c H w M ν (bM H ups) w M' ν∧Fz H (bM H ups)∧((∃e l,H j=some (.ke e l)∧ups=[])∨ ∃e l,H j=some (.own e l)∧ups=[(j,some (.ke e l))])∧ ∃b cs t,ν id= .pointer (some ⟨b,0,none⟩)∧w.heap[b]? =some (.cells cs t (0,0))∧M' b∧Rd w M' τ cs.toList z:=by
 obtain⟨b,cs,t,fR,e0,hb,hg,hM,hr,nO,h1,hq,dv,hj⟩:=hm.linked aF
 have Gq:=(gQ hq).1
 unfold wA at h
 split at h
 ·rename_i e l tA
  obtain⟨z,hz,vD,zR,mF⟩:=kA h
  obtain⟨M',dP,hV,hM'⟩:=Tr.freeze hm tA
  refine⟨z,_,M',hz,dP,λi=> ?_,.inr ⟨e,l,tA,rfl⟩,b,cs,t,hb,hg,?_,?_⟩
  ·by_cases hi:i=j
   ·subst hi;exact .inr ⟨e,l,tA,al _ _ _⟩
   ·exact .inl (aq _ _ hi)
  ·refine(hM' b).2 ⟨hM,λhjb=> ?_⟩
   have gY:j≠id:=λe=>by rw[e,aF]at tA;cases tA
   exact hm.tt j id _ _ b gY tA trivial aF trivial hjb (by rw[hb];rfl)
  ·rw[nO]
   exact mF w M' fR [ν j] Gq (hr.bm dP.bm) (V.slice.1 hV)
 ·rename_i e l tA
  obtain⟨z,hz,vD,zR,mF⟩:=kA h
  have hQ:=hm.fM j _ tA
  simp only[ER]at hQ
  refine⟨z,_,M,hz,.refl hm,.refl H,.inl ⟨e,l,tA,rfl⟩,b,cs,t,hb,hg,hM,?_⟩
  rw[nO]
  exact mF w M fR [ν j] Gq hr hQ.1
 ·cases h
theorem Vc{τ υ:Ty}{t:TypeId}(hE:EnvTy P E)(ht:E.ty t=some τ)(h:dE ([]:List Step) υ τ=true):υ=τ:=bH h
theorem Rd.R3{e:Ty}{v:Value}{cs:List Value}{l:List e.den}(h:Rd w M (.slice e) cs l): ∃a n cap,cs=[.slice a n cap]:=by
 simp only[Rd]at h
 obtain⟨a,cap,rfl,_⟩:=h
 exact⟨a,_,cap,rfl⟩
theorem Ab{ρ:Operand→Value}{t:TypeId}{x:Operand}(ho:o.op= .load t x){τ:Ty}(h:gA P τ t)(ha:τ.isAgg=false){b off:Nat}{v:Value}(hx:ρ x= .pointer (some ⟨b,off,none⟩))(hc:w.cell? ⟨b,off,none⟩=some v):
  (execOp ρ o).run P w= .ok (.value v) w:=by
 have:(loadVar t ⟨b,off,none⟩).run P w= .ok v w:=by
  simp[loadVar,lY h,ha,load,Sem.run,hc]
 simp[execOp,ho,hx,Instr.loadAt,Instr.sureAddr,this]
theorem Dv(hE:EnvTy P E)(hc:Core c σ a.tmps w M ν){t:TypeId}{x:Operand}(ho:o.op= .load t x){K:eo α}{τ:Ty}(ht:E.ty t=some τ)
  (h:gX (σ.ρ x) σ.H (fun υ y rd=>bw υ τ y λz=>K (.val τ z) rd [])=some r) (hn:dt c σ a o w M ν K r next):o.wp P a w next Q:=by
 obtain⟨υ,y,rd,h,b,off,cs,hu,m2,hr⟩:=vC hc.mem (hc.ev x) h
 obtain⟨e,h⟩:=aJ h
 subst e
 refine aA (qk ho (hE.ty t _ ht) hu m2 hr) (hn _ _ _ _ _ _ _ h (.refl hc.mem) ?_)
 simp only[VR]
 exact V.aZ hr
theorem HI(hE:EnvTy P E)(hc:Core c σ a.tmps w M ν){t:TypeId}{x:Operand}(ho:o.op= .load t x){K:eo α}{τ:Ty}(ht:E.ty t=some τ)
  (h:ob τ (σ.ρ x) σ.H K=some r) (hn:dt c σ a o w M ν K r next):o.wp P a w next Q:=by
 unfold ob at h
 simp only at h
 split at h
 ·rename_i id p hx
  split at h
  ·rename_i υ z q j aF
   have hv:=hc.ev x
   rw[hx]at hv
   simp only[VR]at hv
   obtain⟨e1,yd,gT⟩:=hv
   rw[aF]at yd;cases yd
   simp only[AR]at gT
   obtain⟨hi,b,hb,hu⟩:=gT
   obtain⟨b',cs,te,fR,e0,cY,hg,hM,hr,nO,h1,hq,dv,hj⟩:=hc.mem.linked aF
   rw[hb]at cY;cases cY
   cases hp:CJ p q
   ·rw[hp]at h
    cases Dr:rE p q
    ·
     rw[Dr]at h
     simp only[an]at h
     obtain⟨υ',y,o',rJ,h⟩:=gB h
     obtain⟨e2,h⟩:=aJ h
     subst e2
     have ZZ:=rJ.apart hi hq Dr
     have VZ:=rJ.eq.2
     subst VZ
     have zR:=rJ.bound hi
     have hlen:=hr.length
     have gK:Rd w M υ' ((cs.toList.drop (bs p υ)).take υ'.size) y:=by
      rw[nO,w1 (by simp only[aQ];omega) (by simp only[aQ];omega)]
      exact rJ.rd hi hr
     refine aA (qk ho (hE.ty t _ ht) hu (At.of_block hg _ _) gK) (hn _ _ _ _ _ M ν h (.refl hc.mem) ?_)
     simp only[VR]
     exact V.aZ gK
    ·
     rw[Dr]at h
     simp only[an,aa]at h
     obtain⟨z',ups,M',h,dP,_,_,b2,HJ,t2,sd,KC,BJ,Vd⟩:=sf hc.mem aF h
     rw[hb]at sd;cases sd
     rw[hg]at KC;cases KC
     obtain⟨υ',y,o',rJ,h⟩:=gB h
     obtain⟨e2,h⟩:=aJ h
     subst e2
     have VZ:=rJ.eq.2
     subst VZ
     have gK:=rJ.rd hi Vd
     refine aA (qk ho (hE.ty t _ ht) hu (At.of_block hg _ _) gK) (hn _ _ _ _ _ M' ν h dP ?_)
     simp only[VR]
     exact V.aZ gK
   ·
    rw[hp]at h
    have:=sb hp
    subst this
    simp only[aa]at h
    obtain⟨ND,hK⟩:=bn h
    have hτ:τ= .slice e0:=(gQ ND).2.symm.trans (gQ hq).2
    subst hτ
    have HH:w.cell? ⟨b,bs p υ,none⟩=some (ν j):=by rw[cell_of hg,←eI,nO,qV dv]
    refine aA (Ab ho (hE.ty t _ ht) rfl hu HH) (hn _ _ _ _ _ M ν hK (.refl hc.mem) ?_)
    simp only[VR]
    exact⟨hj,trivial⟩
  ·exact Dv hE hc ho ht h hn
 ·exact Dv hE hc ho ht h hn
theorem sg{τ:Ty}{n:Nat}(h:oI τ n=true): ∃e,dE [.fG n] τ (.slice e)=true∧ti τ n=some (.slice e):=by
 unfold oI at h
 split at h
 ·rename_i e he
  exact⟨e,by simp[dE,he],he⟩
 ·cases h
theorem lZ{τ:Ty}{n:Nat}{e:Ty}(h:dE [.fG n] τ (.slice e)=true):oI τ n=true:=by
 unfold dE at h
 unfold oI
 split at h
 ·rename_i a ha
  rw[ha]
  rw[show a= .slice e from bH h]
 ·cases h
theorem ye{τ:Ty}{n:Nat}(h:oI τ n=true):τ.isAgg=true:=by
 cases τ<;>first|rfl|(simp[oI,ti]at h)
theorem KD(hE:EnvTy P E)(hc:Core c σ a.tmps w M ν){t:TypeId}{x:Operand}(ho:o.op= .load t x){K:eo α}{τ:Ty}(ht:E.ty t=some τ)
  (h:tk E τ (σ.ρ x) σ.H K=some r) (hn:dt c σ a o w M ν K r next):o.wp P a w next Q:=by
 unfold tk at h
 split at h
 ·rename_i id II hx
  split at h
  ·rename_i υ z n j aF
   obtain⟨e,h⟩:=aJ h
   subst e
   obtain⟨b,cs,te,fR,e0,hb,hg,hM,hr,nO,h1,hq,dv,hj⟩:=hc.mem.linked aF
   have hv:=hc.ev x
   rw[hx]at hv
   simp only[VR]at hv
   obtain⟨e1,yd,gT⟩:=hv
   rw[aF]at yd;cases yd
   simp only[AR]at gT
   obtain⟨hi,b',cY,hu⟩:=gT
   rw[hb]at cY;cases cY
   have hl:cs.toList.length=υ.size:=by rw[nO,cK (by simp only[aQ];omega),hr.length]
   refine aA (xY (P:=P) (cs:=cs.toList) ho (hE.ty t _ ht) (ye (lZ hq)) hu ?_ hl) (hn (.zZ υ z n j) _ [] _ _ M ν h (.refl hc.mem) ?_)
   ·have:=At.of_block hg 0 cs.toList.length
    rw[bY,ni]at this
    exact this
   ·simp only[VR]
    exact⟨_,fR,rfl,hr,by simpa [bs]using nO,hj,lZ hq⟩
  ·exact HI hE hc ho ht h λv rd ups v' w' M' ν' h1 h2 h3=>hn v (id::rd) ups v' w' M' ν' h1 h2 h3
 ·exact HI hE hc ho ht h hn
end VM
end
section
namespace VM
open Go
variable{P:Program}{E:Env}{o:Oper}{a:Act}{w:World}{M:Nat→Prop}{ν:Nat→Value}{σ:St}{c:Ctx}{α:Type}{r:α}{next:Act→World→Prop}{Q:Exit→Act→World→Prop}
theorem Fz.own{H H1:Nat→Option aI}(h:Fz H H1){i:Nat}{e:Ty}{l:List e.den}(hi:H i=some (.own e l)):H1 i=some (.own e l)∨H1 i=some (.ke e l):=by
 rcases h i with h'|⟨e',l',h1,h2⟩
 ·exact .inl (by rw[h',hi])
 ·rw[hi]at h1;cases h1;exact .inr h2
theorem IJ(hE:EnvTy P E)(hc:Core c σ a.tmps w M ν){t:TypeId}{x y:Operand}(ho:o.op= .store t x y){K:eo α}{τ:Ty}(ht:E.ty t=some τ)
  (h:iJ τ (σ.ρ x) (σ.ρ y) σ.H K=some r) (hn:dt c σ a o w M ν K r next):o.wp P a w next Q:=by
 unfold iJ at h
 split at h
 ·rename_i id p hx
  obtain⟨z,rd,ups,M',h,dP,hV,hz,gK⟩:=gC (.refl _) hc.mem (hc.ev y) h
  have hv:=hc.ev x
  rw[hx]at hv
  have R4:=VR.bm dP.bm dP.goes hv
  have rK:=hE.ty t τ ht
  have yf:=hV.cells.length
  rw[aG]at yf
  split at h
  ·rename_i υ x0 aF
   have k6:=hz.obj aF
   obtain⟨x1,hK,vD,zR,mF⟩:=kA h
   simp only[VR]at R4
   obtain⟨e1,yd,gT⟩:=R4
   rw[k6]at yd;cases yd
   simp only[AR]at gT
   obtain⟨hi,b,hb,hu⟩:=gT
   have hQ:=dP.mem.fM id _ k6
   simp only[ER]at hQ
   obtain⟨b',cs,te,cY,hg,hM,hr⟩:=hQ
   rw[hb]at cY;cases cY
   have zR:=zR hi
   have NB:=hr.length
   rw[aG]at NB
   have cr:=gS (P:=P) ho rK hu hg yf ω hV.cells.gO
   rw[aG]at cr
   have qm:Tr c (bM σ.H ups) w M' ν (a8 (bM σ.H ups) id (some (.obj υ x1))) (w.setRow b (cL cs.toList (bs p υ) (a.eval y).cells.toList).toArray) M' ν:=by
    refine Tr.write (e':= .obj υ x1) dP.mem k6 trivial trivial rfl (by rw[hb];rfl) hg λCO hk qn=> ?_
    simp only[ER]
    refine⟨b,_,te,hb,setRow_heap w b cs _ te _ hg,qn,?_⟩
    exact(mF w M' cs.toList _ hi hr hV.cells).bm hk
   refine jM cr ?_
   refine hn _ _ _ _ _ M' ν hK ?_ (by simp[VR])
   rw[dr]
   have:=dP.trans qm
   unfold cL at this
   rw[aG]at this
   exact this
  ·rename_i e l aF
   split at h
   ·rename_i i q h0
    obtain⟨tB,h⟩:=iW h
    have k6:bM σ.H ups id=some (.own e l):=by rw[gK id tB];exact aF
    obtain⟨y1,hK,vD,zR,mF⟩:=kA h
    simp only[VR]at R4
    obtain⟨e1,yd,gT⟩:=R4
    rw[k6]at yd;cases yd
    simp only[AR]at gT
    obtain⟨i',q',ND,tz,hi,b,n,cp,hb,hu⟩:=gT
    cases ND
    have hQ:=dP.mem.fM id _ k6
    simp only[ER]at hQ
    rcases hQ with⟨rfl,_⟩|⟨b',cs,te,cap,cY,hg,hM,IH,hl,zP,hs,hr⟩
    ·simp at tz
    ·rw[hb]at cY;cases cY
     have zR:=zR hi
     have nN:=cE (s:=e.size) tz
     have qY:l.length*e.size≤cp*e.size:=gh _ hl
     have cr:=gS (P:=P) ho rK hu hg yf ω hV.cells.gO
     rw[aG]at cr
     have hri:=hr i tz
     rw[←gP l i e.zero tz]at hri
     have jG:=mF w M' _ _ hi hri hV.cells
     have hch:((cs.toList.drop (i*e.size)).take e.size).length=e.size:=hri.length
     have NF:cL cs.toList (i*e.size) (cL ((cs.toList.drop (i*e.size)).take e.size) (bs q e) (a.eval y).cells.toList)=cL cs.toList (i*e.size+bs q e) (a.eval y).cells.toList:=by
      have M7:=jG.length
      have e1:cs.toList=cs.toList.take (i*e.size)++(((cs.toList.drop (i*e.size)).take e.size)++cs.toList.drop (i*e.size+e.size)):=by
       rw[←eK,gg,gg]
      have dv:(cs.toList.take (i*e.size)).length=i*e.size:=by rw[bV,aG];omega
      conv=>rhs;rw[e1]
      rw[show i*e.size+bs q e=(cs.toList.take (i*e.size)).length+bs q e from by rw[dv],qU,tq (by rw[hch,aG];omega)]
      generalize cL ((cs.toList.drop (i*e.size)).take e.size) (bs q e) (a.eval y).cells.toList=m at M7 ⊢
      unfold cL
      rw[M7,aT]
     have qm:Tr c (bM σ.H ups) w M' ν (a8 (bM σ.H ups) id (some (.own e (List.set l i y1)))) (w.setRow b (cL cs.toList (i*e.size+bs q e) (a.eval y).cells.toList).toArray) M' ν:=by
      refine Tr.write (e':= .own e (List.set l i y1)) dP.mem k6 trivial trivial ⟨rfl,by rw[cz]⟩ (by rw[hb];simp[dd];omega) hg λCO hk qn=> ?_
      simp only[ER]
      refine .inr ⟨b,_,te,cp,by rw[cz];exact hb,setRow_heap w b cs _ te _ hg,qn,IH,by rw[cz];exact hl,zP,?_,?_⟩
      ·rw[←NF,fa,cK (by rw[jG.length,aG];omega),aG];exact hs
      ·have h9:cs.toList.length=cp*e.size:=by rw[aG,hs]
       have h10:=kf.set (w:=w) (M:=M') (cs:=cs.toList) (l:=l) hr (by rw[h9];exact qY) tz jG
       rw[NF]at h10
       exact λj hj=>(h10 j hj).bm hk
     refine jM cr ?_
     refine hn _ _ _ _ _ M' ν hK ?_ (by simp[VR])
     rw[dr]
     have:=dP.trans qm
     unfold cL at this
     rw[aG]at this
     exact this
   ·cases h
  ·cases h
 ·cases h
theorem Fz.dT{H H1:Nat→Option aI}(h:Fz H H1){i:Nat}{τ:Ty}{x:τ.den}{p:List Step}{j:Nat}(hi:H i=some (.dT τ x p j)):H1 i=some (.dT τ x p j):=by
 rcases h i with h'|⟨e',l',h1,h2⟩
 ·rw[h',hi]
 ·rw[hi]at h1;cases h1
theorem si{β:Type}{l a:List β}{o:Nat}(hl:o+a.length≤l.length)(i:Nat):(cL l o a)[i]? =if o≤i∧i<o+a.length then a[i-o]? else l[i]? :=by
 unfold cL
 by_cases h1:i<o
 ·rw[af ω,aT,ng (by simp;omega),iA,ae h1]
 ·by_cases h2:i<o+a.length
  ·rw[ae ω,ng (by simp;omega),lH (by simp;omega)]
   simp[fb (show o≤l.length by omega)]
  ·rw[af ω,lH (by simp;omega)]
   simp only[aC,bV,fb (show o≤l.length by omega),iB]
   congr 1;omega
theorem Dw{β:Type}{l a b:List β}{o o':Nat}(h:o'≤o∧o+a.length≤o'+b.length)(h1:o+a.length≤l.length)(h2:o'+b.length≤l.length):cL (cL l o a) o' b=cL l o' b:=by
 have l1:=cK (a:=l) (o:=o) (new:=a) h1
 apply sZ
 intro i
 rw[si ω,si ω,si ω]
 by_cases c1:o'≤i∧i<o'+b.length
 ·rw[ae c1,ae c1]
 ·rw[af c1,af c1,af ω]
theorem oh{β:Type}{l:List β}{o:Nat}{u v:β}(h:o<l.length):cL (cL l o [u]) o [v]=cL l o [v]:=
 Dw (by simp) (by simp;omega) (by simp;omega)
theorem Dx{β:Type}{l a b:List β}{o o':Nat}(h:o+a.length≤o'∨o'+b.length≤o)(h1:o+a.length≤l.length)(h2:o'+b.length≤l.length):cL (cL l o a) o' b=cL (cL l o' b) o a:=by
 have l1:=cK (a:=l) (o:=o) (new:=a) h1
 have l2:=cK (a:=l) (o:=o') (new:=b) h2
 apply sZ
 intro i
 rw[si ω,si ω,si ω,si ω]
 by_cases c1:o'≤i∧i<o'+b.length
 ·rw[ae c1,af ω,ae c1]
 ·rw[af c1]
  by_cases c2:o≤i∧i<o+a.length
  ·rw[ae c2,ae c2]
  ·rw[af c2,af c2,af c1]
theorem Dy{m:(υ:Ty)→υ.den→(υ.den→Option α)→Option α}: ∀{τ:Ty} {x:τ.den} {n:Nat} {k:τ.den→Option α},dz τ x n m k=some r→ ∃υ y o k',vy τ x n υ y o∧m υ y k'=some r:=λh=>by
 obtain⟨υ,y,o,k',h1,h2,_⟩:=gD h
 exact⟨υ,y,o,k',h1,h2⟩
theorem yg{υ:Ty}{u:υ.den}: ∀{p:List Step} {τ:Ty} {x:τ.den} {k:τ.den→Option α},pF υ u p τ x k=some r→ ∃y o,BF p τ x υ y o
 |[],τ,x,k,h=>by
  obtain⟨e,_⟩:=aJ (h:bw υ τ u k=some r)
  subst e
  exact⟨x,0,.nil x⟩
 | .fG n::p,τ,x,k,h=>by
  obtain⟨υ',y,o,k',hf,hm⟩:=Dy (h:dz τ x n _ k=some r)
  obtain⟨y',o',hp⟩:=yg (k:=k') hm
  exact⟨y',_,.fG hf hp⟩
 | .idx i::p,τ,x,k,h=>by
  cases τ with
  |arr n e=>
   obtain⟨y',o',hp⟩:=yg (p:=p) (τ:=e) (x:=γ x i e.zero) (k:=λz=>k (List.set x i z)) h
   exact⟨y',_,.idx hp⟩
  |_=>simp[pF,wX]at h
theorem AH: ∀{p q:List Step} {τ e:Ty},rE p q=true→dE q τ (.slice e)=true→bs p τ≤bs q τ∧bs q τ+1≤bs p τ+(z7 p τ).size
 |[],q,τ,e,_,hq=>by
  obtain⟨_,_,rJ⟩:=oe hq τ.zero
  have:=rJ.bound (gQ hq).1
  have h2:=rJ.eq.2
  have:(Ty.slice e).size=1:=rfl
  simp only[bs,z7]
  omega
 | .fG a::p,.fG b::q,τ,e,hp,hq=>by
  simp only[rE,ba]at hp
  have:=df hp.1
  subst this
  unfold dE at hq
  split at hq
  ·rename_i c hc
   obtain⟨_,_,hf⟩:=jm hc τ.zero
   have:=hf.eq.1
   subst this
   have:=AH hp.2 hq
   simp only[bs,z7]
   omega
  ·cases hq
 | .fG _::_,[],_,_,hp,_| .fG _::_,.idx _::_,_,_,hp,_| .idx _::_,_,_,_,hp,_=>by simp[rE]at hp
theorem ER.IK{H:Nat→Option aI}(hm:Mem c H w M ν){k:Nat}{e:Ty}{l:List e.den}(hk:H k=some (.own e l)): ∃ad cp,ν k= .slice ad l.length cp:=by
 have:=hm.fM k _ hk
 simp only[ER]at this
 rcases this with⟨rfl,a,hv⟩|⟨b,cs,t,cap,hv,_⟩
 ·exact⟨a,0,hv⟩
 ·exact⟨_,cap,hv⟩
theorem yh(hE:EnvTy P E)(hc:Core c σ a.tmps w M ν){t:TypeId}{x y:Operand}(ho:o.op= .store t x y){K:eo α}{τ:Ty}(ht:E.ty t=some τ){id k:Nat}{q:List Step}{e:Ty}{υ:Ty}{z:υ.den}
  (hx:σ.ρ x= .ft id q) (hy:σ.ρ y= .ref k) {en:aI} (aF:σ.H id=some en) (NG:en.mut) (tC:en.gR (.dT υ z q k)) (hq:dE q υ (.slice e)=true)
  (im: ∃b cs te fR u,ν id= .pointer (some ⟨b,0,none⟩)∧w.heap[b]? =some (.cells cs te (0,0))∧Rd w M υ fR z∧cs.toList=cL fR (bs q υ) [u])
  (h:vv τ id k e q υ z σ.H K=some r) (hn:dt c σ a o w M ν K r next):o.wp P a w next Q:=by
 unfold vv at h
 split at h
 ·rename_i e' l hk
  obtain⟨e1,h1⟩:=cy h
  clear h
  subst e1
  obtain⟨e2,h2⟩:=cy h1
  clear h1
  subst e2
  obtain⟨z',hK,vD,zR,mF⟩:=kA h2
  obtain⟨b,cs,te,fR,u,hb,hg,hr,nO⟩:=im
  have Gq:=(gQ hq).1
  obtain⟨ad,cp,hνk⟩:=ER.IK hc.mem hk
  have tD:=hc.ev y
  rw[hy]at tD
  simp only[VR]at tD
  have tD:=tD.2
  have zR:=zR Gq
  have hlen:=hr.length
  have M8:(Ty.slice e').size=1:=rfl
  have dv:bs q υ<fR.length:=ω
  have yf:cs.toList.length=fR.length:=by rw[nO];exact cK (by simp;omega)
  have hv:=hc.ev x
  rw[hx]at hv
  simp only[VR]at hv
  obtain⟨e3,QX,gT⟩:=hv
  rw[aF]at QX;cases QX
  have gT:=gT.gR tC
  simp only[AR]at gT
  obtain⟨_,b',cY,hu⟩:=gT
  rw[hb]at cY;cases cY
  have hyc:(a.eval y).cells.toList=[ν k]:=by rw[tD,hνk];rfl
  have mb:(a.eval y).cells.size=(Ty.slice e').size:=by rw[←aG,hyc];rfl
  have cr:=gS (P:=P) ho (hE.ty t _ ht) hu hg mb (by rw[←aG];omega) (by rw[hyc,hνk];simp[Value.oneCell'])
  have jG:(cs.toList.take (bs q υ)++(a.eval y).cells.toList++cs.toList.drop (bs q υ+(a.eval y).cells.toList.length))=cL fR (bs q υ) [ν k]:=by
   rw[hyc]
   show cL cs.toList (bs q υ) [ν k]=_
   rw[nO,oh dv]
  rw[jG]at cr
  have hrz:Rd w M υ (cL fR (bs q υ) [.slice none 0 0]) z':=mF w M fR [.slice none 0 0] Gq hr (Rd.zero w M (.slice e'))
  have dP:Tr c σ.H w M ν (a8 σ.H id (some (.dT υ z' q k))) (w.setRow b (cL fR (bs q υ) [ν k]).toArray) M ν:=by
   refine Tr.write (e':= .dT υ z' q k) hc.mem aF NG trivial (by cases en<;>simp only[aI.gR]at tC ⊢ <;>exact tC) (by rw[hb];rfl) hg (λCO uH qn=> ?_) (fun τ' x' p' j' hl=> ?_)
   ·simp only[ER]
    refine⟨b,_,te,cL fR (bs q υ) [.slice none 0 0],ν k,hb,setRow_heap w b cs _ te _ hg,qn,hrz.bm uH,?_,by rw[hνk];rfl,e',hq⟩
    rw[oh dv]
   ·cases hl
    refine⟨by rw[hk];simp,b,hb,?_⟩
    rw[cell_of (setRow_heap w b cs _ te _ hg),←eI]
    show(cL fR (bs q υ) [ν k])[bs q υ]? =_
    rw[qV dv]
  exact jM cr (hn _ _ _ _ _ M ν hK dP (by simp[VR]))
 ·cases h
theorem yi(hE:EnvTy P E)(hc:Core c σ a.tmps w M ν){t:TypeId}{x y:Operand}(ho:o.op= .store t x y){K:eo α}{τ:Ty}(ht:E.ty t=some τ)
  (h:gy E τ (σ.ρ x) (σ.ρ y) σ.H K=some r) (hn:dt c σ a o w M ν K r next):o.wp P a w next Q:=by
 have hold:iJ τ (σ.ρ x) (σ.ρ y) σ.H K=some r→o.wp P a w next Q:=λh=>IJ hE hc ho ht h hn
 unfold gy at h
 simp only at h
 split at h
 ·rename_i id p hx
  have k9:=hx
  split at h
  ·rename_i υ z aF
   split at h
   ·rename_i q e k lB hy
    cases hp:CJ p q
    ·rw[hp]at h;exact hold h
    ·rw[hp]at h
     simp only[aa]at h
     have:=sb hp
     subst this
     have hq:=mE lB
     have hQ:=hc.mem.fM id _ aF
     simp only[ER]at hQ
     obtain⟨b,cs,te,hb,hg,hM,hr⟩:=hQ
     have dv:bs p υ<cs.toList.length:=by
      obtain⟨_,_,rJ⟩:=oe hq z
      have:=rJ.bound (gQ hq).1
      have h2:=rJ.eq.2
      have:=hr.length
      have:(Ty.slice e).size=1:=rfl
      omega
     refine yh hE hc ho ht hx hy aF trivial rfl hq ⟨b,cs,te,cs.toList,cs.toList[bs p υ],hb,hg,hr,?_⟩ h hn
     exact(xS (bc dv)).symm
   ·exact hold h
  ·rename_i υ z q j aF
   obtain⟨b,cs,te,fR,e0,hb,hg,hM,hr,nO,h1,hq,dv,hj⟩:=hc.mem.linked aF
   have KE:iH true (σ.ρ y) σ.H τ (λy rd ups=>pF τ y p υ z λz=>K .any (id::rd) (ups++[(id,some (cond (rE p q) (.obj υ z) (.dT υ z q j)))]))=some r→o.wp P a w next Q:=by
    intro h
    obtain⟨u,rd,ups,M',h,dP,hV,hz,gK⟩:=gC (.refl _) hc.mem (hc.ev y) h
    have k6:=hz.dT aF
    have hv:=hc.ev x
    rw[hx]at hv
    have R4:=VR.bm dP.bm dP.goes hv
    simp only[VR]at R4
    obtain⟨e1,yd,gT⟩:=R4
    rw[k6]at yd;cases yd
    simp only[AR]at gT
    obtain⟨hi,b1,jF,hu⟩:=gT
    rw[hb]at jF;cases jF
    obtain⟨b2,HJ,te2,V8,e3,sd,KC,BJ,Vd,NH,h12,M9,V9,hj2⟩:=dP.mem.linked k6
    rw[hb]at sd;cases sd
    rw[hg]at KC;cases KC
    obtain⟨z',hK,vD,zR,mF⟩:=kA h
    have zR:=zR hi
    have NB:=Vd.length
    have yf:cs.toList.length=V8.length:=by rw[NH];exact cK (by simp;omega)
    have NI:=hV.cells.length
    rw[aG]at NI
    have afx:(a.eval y).cells.toList.length=τ.size:=by rw[aG];exact NI
    have cr:=gS (P:=P) ho (hE.ty t _ ht) hu hg NI (by rw[←aG];omega) hV.cells.gO
    have Dz:cs.toList.take (bs p υ)++(a.eval y).cells.toList++cs.toList.drop (bs p υ+(a.eval y).cells.toList.length)=cL cs.toList (bs p υ) (a.eval y).cells.toList:=rfl
    rw[Dz]at cr
    have R5:=mF w M' V8 _ hi Vd hV.cells
    have fin: ∀e',e'.mut→aI.gR (.dT υ z q j) e'→K .any (id::rd) (ups++[(id,some e')])=some r→(∀CO,dq w M' (w.setRow b (cL cs.toList (bs p υ) (a.eval y).cells.toList).toArray) CO→CO b→ER (w.setRow b (cL cs.toList (bs p υ) (a.eval y).cells.toList).toArray) CO (ν id) e')→
      (∀τ' x' p' j',e'= .dT τ' x' p' j'→(bM σ.H ups) j'≠none∧ ∃b',ν id= .pointer (some ⟨b',0,none⟩)∧(w.setRow b (cL cs.toList (bs p υ) (a.eval y).cells.toList).toArray).cell? ⟨b',bs p' τ',none⟩=some (ν j'))→o.wp P a w next Q:=by
     intro e' fc zO hK ID lB
     have qm:=Tr.write (e':=e') dP.mem k6 trivial fc zO (by rw[hb];rfl) hg ID lB
     refine jM cr (hn _ _ _ _ _ M' ν hK ?_ (by simp[VR]))
     rw[dr]
     exact dP.trans qm
    cases Dr:rE p q
    ·rw[Dr]at hK
     simp only[an]at hK
     obtain⟨yy,oo,rJ⟩: ∃y o,BF p υ z τ y o:=yg h
     have ZZ:=rJ.apart hi hq Dr
     have hoo:=rJ.eq.2
     subst hoo
     have QY:cL cs.toList (bs p υ) (a.eval y).cells.toList=cL (cL V8 (bs p υ) (a.eval y).cells.toList) (bs q υ) [ν j]:=by
      rw[NH]
      exact Dx (by simp only[aQ];omega) (by simp only[aQ];omega) ω
     have M7:=cK (a:=V8) (o:=bs p υ) (new:=(a.eval y).cells.toList) ω
     refine fin (.dT υ z' q j) trivial rfl hK (λCO hk qn=> ?_) (fun τ' x' p' j' hl=> ?_)
     ·simp only[ER]
      exact⟨b,_,te,_,ν j,hb,setRow_heap w b cs _ te _ hg,qn,R5.bm hk,QY,h1,e0,hq⟩
     ·cases hl
      refine⟨hj2,b,hb,?_⟩
      rw[cell_of (setRow_heap w b cs _ te _ hg),←eI]
      show(cL cs.toList (bs p υ) (a.eval y).cells.toList)[bs q υ]? =_
      rw[QY,qV ω]
    ·rw[Dr]at hK
     simp only[aa]at hK
     refine fin (.obj υ z') trivial rfl hK (λCO hk qn=> ?_) (fun τ' x' p' j' hl=>by cases hl)
     simp only[ER]
     refine⟨b,_,te,hb,setRow_heap w b cs _ te _ hg,qn,?_⟩
     show Rd _ _ υ (cL cs.toList (bs p υ) (a.eval y).cells.toList) z'
     have hJ:=AH Dr hq
     rw[vD]at hJ
     have ho:cL cs.toList (bs p υ) (a.eval y).cells.toList=cL V8 (bs p υ) (a.eval y).cells.toList:=by
      rw[NH]
      exact Dw (by simp only[aQ];omega) (by simp only[aQ];omega) ω
     have h9:=R5.bm hk
     rw[←ho]at h9
     exact h9
   split at h
   ·rename_i q' e k lB hy
    cases hp:(CJ p q&&CJ q q')
    ·rw[hp]at h;exact KE h
    ·rw[hp]at h
     simp only[aa]at h
     rw[ba]at hp
     have:=sb hp.1
     subst this
     have:=sb hp.2
     subst this
     refine yh hE hc ho ht hx hy aF trivial rfl (mE lB) ⟨b,cs,te,fR,ν j,hb,hg,hr,nO⟩ h hn
   ·exact KE h
  ·exact hold h
 ·exact hold h
theorem IL(hE:EnvTy P E)(hc:Core c σ a.tmps w M ν){t:TypeId}{x y:Operand}(ho:o.op= .store t x y){K:eo α}{τ:Ty}(ht:E.ty t=some τ)
  (h:nK E τ (σ.ρ x) (σ.ρ y) σ.H K=some r) (hn:dt c σ a o w M ν K r next):o.wp P a w next Q:=by
 unfold nK at h
 split at h
 ·rename_i id υ z n hx hy
  split at h
  ·rename_i m e lB
   cases w4:Nat.beq m n
   ·rw[w4]at h
    simp only[an]at h
    exact yi hE hc ho ht h hn
   ·rw[w4]at h
    simp only[aa]at h
    have w4:=df w4
    subst w4
    obtain⟨e1,h1⟩:=cy h
    clear h
    subst e1
    have hq:=mE lB
    have tD:=hc.ev y
    rw[hy]at tD
    simp only[VR]at tD
    obtain⟨hV,cs,ad,V5,hz⟩:=tD
    have NI:(a.eval y).cells=cs:=by rw[V5];rfl
    obtain⟨en,aF,NG,hK⟩: ∃en:aI,σ.H id=some en∧(∃z0,en= .obj τ z0∨ ∃q j,en= .dT τ z0 q j)∧σ.H (id+2)=none∧K .any [id,id+2] [(id,some (.dT τ z [.fG m] (id+2))),(id+2,some (.own e []))]=some r:=by
     unfold g7 at h1
     split at h1
     ·rename_i υ z0 aF
      obtain⟨e2,h2⟩:=cy h1
      clear h1
      subst e2
      obtain⟨h3,h4⟩:=il h2
      exact⟨_,aF,⟨z0,.inl rfl⟩,h3,h4⟩
     ·rename_i υ z0 q j aF
      obtain⟨e2,h2⟩:=cy h1
      clear h1
      subst e2
      obtain⟨h3,h4⟩:=il h2
      exact⟨_,aF,⟨z0,.inr ⟨q,j,rfl⟩⟩,h3,h4⟩
     ·cases h1
     ·cases h1
     ·cases h1
    obtain⟨hk,hK⟩:=hK
    have R6:en.mut:=by rcases NG with⟨z0,rfl|⟨q,j,rfl⟩⟩<;>trivial
    have tC:en.gR (.obj τ z):=by rcases NG with⟨z0,rfl|⟨q,j,rfl⟩⟩<;>rfl
    obtain⟨b,fR,te,hb,hg,mb⟩: ∃b fR te,ν id= .pointer (some ⟨b,0,none⟩)∧w.heap[b]? =some (.cells fR te (0,0))∧fR.toList.length=τ.size:=by
     rcases NG with⟨z0,rfl|⟨q,j,rfl⟩⟩
     ·have:=hc.mem.fM id _ aF
      simp only[ER]at this
      obtain⟨b,fR,te,h2,h3,_,h5⟩:=this
      exact⟨b,fR,te,h2,h3,h5.length⟩
     ·obtain⟨b,fR,te,sj,_,h2,h3,_,h5,h6,_,_,h7,_⟩:=hc.mem.linked aF
      refine⟨b,fR,te,h2,h3,?_⟩
      rw[h6,cK (by simp only[aQ];omega),h5.length]
    have hv:=hc.ev x
    rw[hx]at hv
    simp only[VR]at hv
    obtain⟨e3,QX,gT⟩:=hv
    rw[aF]at QX;cases QX
    have gT:=gT.gR tC
    simp only[AR]at gT
    obtain⟨_,b',cY,hu⟩:=gT
    rw[hb]at cY;cases cY
    have yf:=hV.cells.length
    have cr:=gS (P:=P) ho (hE.ty t _ ht) hu hg (by rw[←aG];exact yf) (by rw[←aG,mb];simp[bs]) hV.cells.gO
    have Dz:fR.toList.take (bs [] τ)++(a.eval y).cells.toList++fR.toList.drop (bs [] τ+(a.eval y).cells.toList.length)=(a.eval y).cells.toList:=by
     simp only[bs,pV,c7,dG]
     rw[gd ω,bF]
    rw[Dz]at cr
    have mF:=setRow_heap w b fR (a.eval y).cells.toList.toArray te _ hg
    have dP:=Tr.write (e':= .obj τ z) (new:=(a.eval y).cells.toList.toArray) hc.mem aF R6 trivial tC (by rw[hb];rfl) hg (λCO uH qn=>by
     simp only[ER]
     exact⟨b,_,te,hb,mF,qn,hV.cells.bm uH⟩)
    have gY:id+2≠id:=ω
    have qm:=Tr.KA dP.mem (id:=id) (k:=id+2) (by rw[aq _ _ gY];exact hk) (al _ _ _) hb mF hq (ad:=ad) (by rw[NI];simpa [bs]using hz)
    have e1:bM (a8 σ.H id (some (.obj τ z))) [(id,some (.dT τ z [.fG m] (id+2))),(id+2,some (.own e []))]=bM σ.H [(id,some (.dT τ z [.fG m] (id+2))),(id+2,some (.own e []))]:=by
     show a8 (a8 (a8 σ.H id _) id _) (id+2) _=a8 (a8 σ.H id _) (id+2) _
     rw[se]
    rw[e1]at qm
    exact jM cr (hn _ _ _ _ _ _ _ hK (dP.trans qm) (by simp[VR]))
  ·exact yi hE hc ho ht h hn
 ·exact yi hE hc ho ht h hn
theorem IM(hE:EnvTy P E)(hc:Core c σ a.tmps w M ν){t:TypeId}{x y:Operand}(ho:o.op= .store t x y){K:eo α}{τ:Ty}(ht:E.ty t=some τ)
  (h:qf E τ (σ.ρ x) (σ.ρ y) σ.H K=some r) (hn:dt c σ a o w M ν K r next):o.wp P a w next Q:=by
 unfold qf at h
 split at h
 ·rename_i id υ z n j hx hy
  split at h
  ·rename_i m e lB
   obtain⟨w4,h0⟩:=bn h
   clear h
   have w4:=df w4
   subst w4
   obtain⟨e1,h1⟩:=cy h0
   clear h0
   subst e1
   have hq:=mE lB
   have tD:=hc.ev y
   rw[hy]at tD
   simp only[VR]at tD
   obtain⟨cs,fR,V5,R5,nO,hj,rL⟩:=tD
   have NI:(a.eval y).cells=cs:=by rw[V5];rfl
   obtain⟨en,aF,NG,h2⟩: ∃en:aI,σ.H id=some en∧(∃z0,en= .obj τ z0∨ ∃q j,en= .dT τ z0 q j)∧(match σ.H j with
    |some (.own e' _)=>fg e' e (K .any [id,j] [(id,some (.dT τ z [.fG m] j))])
    |_=>none)=some r:=by
    unfold g7 at h1
    split at h1
    ·rename_i υ z0 aF
     obtain⟨e2,h2⟩:=cy h1
     clear h1
     subst e2
     exact⟨_,aF,⟨z0,.inl rfl⟩,h2⟩
    ·rename_i υ z0 q j aF
     obtain⟨e2,h2⟩:=cy h1
     clear h1
     subst e2
     exact⟨_,aF,⟨z0,.inr ⟨q,j,rfl⟩⟩,h2⟩
    ·cases h1
    ·cases h1
    ·cases h1
   obtain⟨l,tA,hK⟩: ∃l,σ.H j=some (.own e l)∧K .any [id,j] [(id,some (.dT τ z [.fG m] j))]=some r:=by
    split at h2
    ·rename_i e' l tA
     obtain⟨e3,h3⟩:=cy h2
     clear h2
     subst e3
     exact⟨l,tA,h3⟩
    ·cases h2
   have uE:(ν j).oneCell'=true:=by
    have:=hc.mem.fM j _ tA
    simp only[ER]at this
    rcases this with⟨_,ad,hv⟩|⟨b,cs,t,cap,hv,_⟩<;>rw[hv]<;>rfl
   have R6:en.mut:=by rcases NG with⟨z0,rfl|⟨q,j,rfl⟩⟩<;>trivial
   have tC:en.gR (.dT τ z [.fG m] j):=by rcases NG with⟨z0,rfl|⟨q,j,rfl⟩⟩<;>rfl
   obtain⟨b,HJ,te,hb,hg,mb⟩: ∃b HJ te,ν id= .pointer (some ⟨b,0,none⟩)∧w.heap[b]? =some (.cells HJ te (0,0))∧HJ.toList.length=τ.size:=by
    rcases NG with⟨z0,rfl|⟨q,j,rfl⟩⟩
    ·have:=hc.mem.fM id _ aF
     simp only[ER]at this
     obtain⟨b,fR,te,h2,h3,_,h5⟩:=this
     exact⟨b,fR,te,h2,h3,h5.length⟩
    ·obtain⟨b,fR,te,sj,_,h2,h3,_,h5,h6,_,_,h7,_⟩:=hc.mem.linked aF
     refine⟨b,fR,te,h2,h3,?_⟩
     rw[h6,cK (by simp only[aQ];omega),h5.length]
   have hv:=hc.ev x
   rw[hx]at hv
   simp only[VR]at hv
   obtain⟨e3,QX,gT⟩:=hv
   rw[aF]at QX;cases QX
   have gT:=gT.gR tC
   simp only[AR]at gT
   obtain⟨_,b',cY,hu⟩:=gT
   rw[hb]at cY;cases cY
   obtain⟨y0,o0,hf0⟩:=jm (sg rL).choose_spec.2 z
   have hfb:=hf0.bound
   rw[hf0.eq.2]at hfb
   have M8:(Ty.slice (sg rL).choose).size=1:=rfl
   rw[M8]at hfb
   have hl0:=R5.length
   have dv:dO τ m<fR.length:=ω
   have yf:cs.toList.length=τ.size:=by rw[nO,cK (by simp only[aQ];omega),hl0]
   have R7: ∀v∈cs.toList,v.oneCell'=true:=by
    intro v hv
    rw[nO]at hv
    unfold cL at hv
    simp only[br,dw]at hv
    rcases hv with(hv|hv)|hv
    ·exact R5.gO v (sW hv)
    ·rw[hv];exact uE
    ·exact R5.gO v (pO hv)
   have cr:=gS (P:=P) ho (hE.ty t _ ht) hu hg (by rw[NI,←aG];exact yf) (by rw[←aG,mb];simp[bs]) (by rw[NI];exact R7)
   have Dz:HJ.toList.take (bs [] τ)++(a.eval y).cells.toList++HJ.toList.drop (bs [] τ+(a.eval y).cells.toList.length)=cs.toList:=by
    rw[NI]
    simp only[bs,pV,c7,dG]
    rw[gd ω,bF]
   rw[Dz]at cr
   have mF:=setRow_heap w b HJ cs.toList.toArray te _ hg
   have Wa:bs [.fG m] τ=dO τ m:=by simp[bs]
   have dP:=Tr.write (e':= .dT τ z [.fG m] j) (new:=cs.toList.toArray) hc.mem aF R6 trivial tC (by rw[hb];rfl) hg (λCO uH qn=>by
    simp only[ER]
    exact⟨b,_,te,fR,ν j,hb,mF,qn,R5.bm uH,by rw[Wa];exact nO,uE,e,hq⟩) (fun τ' x' p' j' hl=>by
    cases hl
    refine⟨hj,b,hb,?_⟩
    rw[cell_of mF,Wa]
    show cs.toList.toArray[dO τ m]? =_
    rw[xx,nO,qV dv])
   exact jM cr (hn _ _ _ _ _ _ _ hK dP (by simp[VR]))
  ·cases h
 ·exact IL hE hc ho ht h hn
end VM
end
section
namespace VM
open Go
variable{P:Program}{E:Env}{o:Oper}{a:Act}{w:World}{M:Nat→Prop}{ν:Nat→Value}{σ:St}{c:Ctx}{α:Type}{r:α}{next:Act→World→Prop}{Q:Exit→Act→World→Prop}
theorem nb{n:Nat}(h:Nat.beq n 0=false):n≠0:=by rw[←gN,pZ]at h;exact h
theorem At.sub{b off:Nat}{cs:List Value}(h:At w b off cs)(o n:Nat):At w b (off+o) ((cs.drop o).take n):=by
 intro j v hj
 rw[iA]at hj
 split at hj
 ·rw[iB]at hj
  have:=h _ v hj
  rwa [←kt]at this
 ·cases hj
def qo:aI→List Step→Option Ty
 | .obj τ _,p=>some (z7 p τ)
 | .dT τ _ _ _,p=>some (z7 p τ)
 | .own e _,.idx _::p| .ke e _,.idx _::p=>some (z7 p e)
 |_,_=>none
theorem yj{id:Nat}{p:List Step}{H:Nat→Option aI}{k:Ty→Option α}(h:g7 id p H k=some r): ∃e υ,H id=some e∧qo e p=some υ∧k υ=some r:=by
 unfold g7 at h
 split at h
 ·rename_i τ x aF
  obtain⟨υ,y,o,hp,hk⟩:=gB h
  exact⟨_,υ,aF,by simp[qo,hp.eq.1],hk⟩
 ·rename_i τ x _ _ aF
  obtain⟨υ,y,o,hp,hk⟩:=gB h
  exact⟨_,υ,aF,by simp[qo,hp.eq.1],hk⟩
 ·rename_i e l aF
  split at h
  ·obtain⟨υ,y,o,hp,hk⟩:=gB h
   exact⟨_,υ,aF,by simp[qo,hp.eq.1],hk⟩
  ·cases h
 ·rename_i e l aF
  split at h
  ·obtain⟨υ,y,o,hp,hk⟩:=gB h
   exact⟨_,υ,aF,by simp[qo,hp.eq.1],hk⟩
  ·cases h
 ·cases h
theorem AR.step{v:Value}{p:List Step}{u:Value}{e:aI}{υ:Ty}(h:AR v p u e)(ht:qo e p=some υ)(s:Step)(hs:rI [s] υ):
  ∃b off,u= .pointer (some ⟨b,off,none⟩)∧AR v (p++[s]) (.pointer (some ⟨b,off+bs [s] υ,none⟩)) e:=by
 cases e with
 |obj τ x=>
  simp only[qo,eJ]at ht
  simp only[AR]at h ⊢
  obtain⟨hi,b,hb,rfl⟩:=h
  subst ht
  exact⟨b,_,rfl,(nr p [s] τ).2 ⟨hi,hs⟩,b,hb,by rw[nq]⟩
 |dT τ x _ _=>
  simp only[qo,eJ]at ht
  simp only[AR]at h ⊢
  obtain⟨hi,b,hb,rfl⟩:=h
  subst ht
  exact⟨b,_,rfl,(nr p [s] τ).2 ⟨hi,hs⟩,b,hb,by rw[nq]⟩
 |own e l=>
  simp only[AR]at h ⊢
  obtain⟨i,q,rfl,tz,hi,b,n,cp,hb,rfl⟩:=h
  simp only[qo,eJ]at ht
  subst ht
  exact⟨b,_,rfl,i,q++[s],rfl,tz,(nr q [s] e).2 ⟨hi,hs⟩,b,n,cp,hb,by rw[nq,kt]⟩
 |ke e l=>
  simp only[AR]at h ⊢
  obtain⟨i,q,rfl,tz,hi,b,n,cp,hb,rfl⟩:=h
  simp only[qo,eJ]at ht
  subst ht
  exact⟨b,_,rfl,i,q++[s],rfl,tz,(nr q [s] e).2 ⟨hi,hs⟩,b,n,cp,hb,by rw[nq,kt]⟩
 |gone=>simp[qo]at ht
theorem uI(hE:EnvTy P E)(hc:Core c σ a.tmps w M ν){t:TypeId}{x:Operand}{n:Nat}(ho:o.op= .fieldAddr t x n){K:eo α}{τ:Ty}(ht:E.ty t=some τ){id:Nat}{p:List Step}(hx:σ.ρ x= .ft id p)
  (h:g7 id p σ.H (fun υ=>fg υ τ (oF τ τ.zero n fun υ' _=>cond (Nat.beq υ'.size 0) none (K (.ft id (p++[.fG n])) [id] [])))=some r) (hn:dt c σ a o w M ν K r next):o.wp P a w next Q:=by
 obtain⟨e,υ,aF,het,h⟩:=yj h
 obtain⟨R8,h_⟩:=cy h
 clear h
 subst R8
 have h:=h_
 clear h_
 obtain⟨υ',y,of,hf,h⟩:=kz h
 obtain⟨hz,h⟩:=iW h
 have hv:=hc.ev x
 rw[hx]at hv
 simp only[VR]at hv
 obtain⟨e',nV,gT⟩:=hv
 rw[aF]at nV;cases nV
 obtain⟨b,off,hu,R9⟩:=gT.step het (.fG n) trivial
 obtain⟨fs,f,Gc,Wb,Ve,zS⟩:=(hE.ty t υ ht).fG hf
 obtain⟨v,cr,hvv⟩:=og (P:=P) ho (w:=w) Gc Wb zS (nb hz) hu
 refine aA cr (hn _ _ _ _ _ M ν h (.refl hc.mem) ?_)
 simp only[VR]
 refine⟨e,aF,?_⟩
 rw[hvv,Ve,hf.eq.2]
 simpa [bs]using R9
theorem tE(hE:EnvTy P E)(hc:Core c σ a.tmps w M ν){t:TypeId}{x:Operand}{n:Nat}(ho:o.op= .fieldAddr t x n){K:eo α}{τ:Ty}(ht:E.ty t=some τ){υ:Ty}{z:υ.den}(hx:σ.ρ x= .mw υ z)
  (h:fg υ τ (oF υ z n fun υ y=>cond (Nat.beq υ.size 0) none (K (.mw υ y) [] []))=some r) (hn:dt c σ a o w M ν K r next):o.wp P a w next Q:=by
 obtain⟨he,h1⟩:=cy h
 subst he
 obtain⟨υ',y,of,hf,h⟩:=kz h1
 obtain⟨hz,h⟩:=iW h
 have hv:=hc.ev x
 rw[hx]at hv
 simp only[VR]at hv
 obtain⟨b,off,hu,hb,hM,cs,m2,hr⟩:=hv
 obtain⟨fs,f,Gc,Wb,Ve,zS⟩:=(hE.ty t υ ht).fG hf
 obtain⟨v,cr,hvv⟩:=og (P:=P) ho (w:=w) Gc Wb zS (nb hz) hu
 refine aA cr (hn _ _ _ _ _ M ν h (.refl hc.mem) ?_)
 simp only[VR]
 exact⟨b,off+f.offset,hvv,hb,hM,_,by rw[Ve];exact m2.sub of υ'.size,hf.rd hr⟩
theorem V.agg{τ:Ty}(ha:τ.isAgg=true){v:Value}{x:τ.den}(h:V w M τ v x): ∃cs,v= .agg cs∧Rd w M τ cs.toList x:=by
 unfold V at h;rw[ae ha]at h;exact h
theorem vy.agg{τ:Ty}{x:τ.den}{n:Nat}{υ:Ty}{y:υ.den}{o:Nat}(h:vy τ x n υ y o):τ.isAgg=true:=by cases h<;>rfl
theorem KF(hE:EnvTy P E)(hc:Core c σ a.tmps w M ν){t:TypeId}{x:Operand}{n:Nat}(ho:o.op= .field t x n){K:eo α}{τ:Ty}(ht:E.ty t=some τ){υ:Ty}{z:υ.den}(hx:σ.ρ x= .val υ z)
  (h:fg υ τ (oF υ z n fun υ y=>K (.val υ y) [] [])=some r) (hn:dt c σ a o w M ν K r next):o.wp P a w next Q:=by
 obtain⟨he,h1⟩:=cy h
 subst he
 obtain⟨υ',y,of,hf,h⟩:=kz h1
 have hv:=hc.ev x
 rw[hx]at hv
 simp only[VR]at hv
 obtain⟨cs,hu,hr⟩:=hv.agg hf.agg
 obtain⟨fs,f,Gc,Wb,Ve,zS⟩:=(hE.ty t υ ht).fG hf
 have fN:=hf.rd hr
 refine aA (BH ho Gc Wb zS hu (by rw[Ve];exact fN)) (hn _ _ _ _ _ M ν h (.refl hc.mem) ?_)
 simp only[VR]
 rw[Ve]
 exact V.aZ fN
theorem BK(hE:EnvTy P E)(hc:Core c σ a.tmps w M ν){t:TypeId}{x i:Operand}(ho:o.op= .indexAddr t x i){K:eo α}{τ:Ty}(ht:E.ty t=some τ)
  (h:ep τ (σ.ρ x) (σ.ρ i) σ.H K=some r) (hn:dt c σ a o w M ν K r next):o.wp P a w next Q:=by
 unfold ep at h
 obtain⟨k,n,hi,h2⟩:=jo h
 clear h
 have h:=h2
 clear h2
 have HK:=hc.ev i
 rw[hi]at HK
 have HK:=HK.int
 have hv:=hc.ev x
 have rK:=hE.ty t τ ht
 split at h
 ·
  rename_i e
  obtain⟨e',Gc,hle⟩:=rK.slice
  split at h
  ·rename_i υ l hx
   obtain⟨e1,h⟩:=aJ h
   subst e1
   obtain⟨hJ,h⟩:=bn h
   obtain⟨h0,h1⟩:=oK hJ
   have h1:n<(ℓ l:Int):=h1
   rw[hx]at hv
   simp only[VR]at hv
   have hv:=V.slice.1 hv
   simp only[Rd,dx,dR]at hv
   obtain⟨ad,cap,hu,Sa,hr⟩:=hv
   obtain⟨b,off,rfl,hb,hM,cs,m2,gK⟩:=hr n.toNat ω
   refine aA (hO ho Gc hle hu HK h0 h1) (hn _ _ _ _ _ M ν h (.refl hc.mem) ?_)
   simp only[VR]
   refine⟨b,_,rfl,hb,hM,cs,m2,?_⟩
   have:Rd w M e cs (γ l n.toNat e.zero):=by rw[gP l n.toNat e.zero ω];exact gK
   exact this
  ·rename_i id hx
   rw[hx]at hv
   simp only[VR]at hv
   obtain⟨_,hu⟩:=hv
   split at h
   ·rename_i e2 l aF
    obtain⟨R8,h_⟩:=cy h
    clear h
    subst R8
    have h:=h_
    clear h_
    obtain⟨hJ,h⟩:=bn h
    obtain⟨h0,h1⟩:=oK hJ
    have hQ:=hc.mem.fM id _ aF
    simp only[ER]at hQ
    rcases hQ with⟨rfl,_⟩|⟨b,cs,te,cap,hb,hg,hM,IH,hl,zP,hs,hr⟩
    ·simp at h1;omega
    ·rw[hb]at hu
     refine aA (hO ho Gc hle hu HK h0 h1) (hn _ _ _ _ _ M ν h (.refl hc.mem) ?_)
     simp only[VR]
     refine⟨_,aF,?_⟩
     simp only[AR]
     exact⟨n.toNat,[],rfl,ω,trivial,b,_,_,hb,by simp[bs]⟩
   ·rename_i e2 l aF
    obtain⟨R8,h_⟩:=cy h
    clear h
    subst R8
    have h:=h_
    clear h_
    obtain⟨hJ,h⟩:=bn h
    obtain⟨h0,h1⟩:=oK hJ
    have hQ:=hc.mem.fM id _ aF
    simp only[ER]at hQ
    obtain⟨gK,hhd⟩:=hQ
    simp only[Rd,dx,dR]at gK
    obtain⟨ad,cap,hb,Sa,hr⟩:=gK
    rcases hhd with⟨rfl,_⟩|⟨b,n2,c2,sd⟩
    ·simp at h1;omega
    ·rw[hb]at sd;cases sd
     rw[hb]at hu
     refine aA (hO ho Gc hle hu HK h0 h1) (hn _ _ _ _ _ M ν h (.refl hc.mem) ?_)
     simp only[VR]
     refine⟨_,aF,?_⟩
     simp only[AR]
     exact⟨n.toNat,[],rfl,ω,trivial,b,_,_,hb,by simp[bs]⟩
   ·cases h
  ·cases h
 ·
  rename_i len e
  obtain⟨e',Gc,hle⟩:=rK.arr
  split at h
  ·rename_i id p hx
   obtain⟨en,υ,aF,het,h⟩:=yj h
   obtain⟨R8,h_⟩:=cy h
   clear h
   subst R8
   have h:=h_
   clear h_
   obtain⟨hJ,h⟩:=bn h
   obtain⟨h0,h1⟩:=oK hJ
   rw[hx]at hv
   simp only[VR]at hv
   obtain⟨en',nV,gT⟩:=hv
   rw[aF]at nV;cases nV
   obtain⟨b,off,hu,R9⟩:=gT.step het (.idx n.toNat) ⟨⟨len,e,rfl,ω⟩,trivial⟩
   refine aA (nu ho Gc hle hu HK h0 h1) (hn _ _ _ _ _ M ν h (.refl hc.mem) ?_)
   simp only[VR]
   refine⟨en,aF,?_⟩
   simpa [bs,RX]using R9
  ·rename_i υ l hx
   obtain⟨e1,h⟩:=aJ h
   subst e1
   obtain⟨hJ,h⟩:=bn h
   obtain⟨h0,h1⟩:=oK hJ
   rw[hx]at hv
   simp only[VR]at hv
   obtain⟨b,off,hu,hb,hM,cs,m2,hr⟩:=hv
   refine aA (nu ho Gc hle hu HK h0 h1) (hn _ _ _ _ _ M ν h (.refl hc.mem) ?_)
   simp only[VR]
   exact⟨b,_,rfl,hb,hM,_,m2.sub _ e.size,hr.idx ω⟩
  ·cases h
 ·cases h
theorem wF(hc:Core c σ a.tmps w M ν){x:Operand}(ho:o.op= .nilCheck x){K:eo α}{id:Nat}{p:List Step}(hx:σ.ρ x= .ft id p)
  (h:K (.ft id p) [] []=some r) (hn:dt c σ a o w M ν K r next):o.wp P a w next Q:=by
 have hv:=hc.ev x
 have Gd:=hv
 rw[hx]at hv
 simp only[VR]at hv
 obtain⟨e,he,gT⟩:=hv
 obtain⟨ad,hu⟩:=gT.ptr
 refine aA (pq ho hu) (hn _ _ _ _ _ M ν h (.refl hc.mem) ?_)
 rw[←hu,←hx];exact Gd
theorem uK(hc:Core c σ a.tmps w M ν){x:Operand}(ho:o.op= .nilCheck x){K:eo α}{τ:Ty}{z:τ.den}(hx:σ.ρ x= .mw τ z)
  (h:K (.mw τ z) [] []=some r) (hn:dt c σ a o w M ν K r next):o.wp P a w next Q:=by
 have hv:=hc.ev x
 have Gd:=hv
 rw[hx]at hv
 simp only[VR]at hv
 obtain⟨b,off,hu,_⟩:=hv
 refine aA (pq ho hu) (hn _ _ _ _ _ M ν h (.refl hc.mem) ?_)
 rw[←hu,←hx];exact Gd
theorem fH.get{H:Nat→Option aI}: ∀{lL:List aM} {vs:List Value},fH w M H ν lL vs→ ∀{i:Nat} {x:aM},lL[i]? =some x→ ∃v,vs[i]? =some v∧VR w M H ν x v
 |[],_,_,i,x,hx=>by simp at hx
 |y::lL,[],h,_,_,_=>by simp[fH]at h
 |y::lL,v::vs,h,0,x,hx=>by
  simp only[fH]at h
  simp at hx;subst hx
  exact⟨v,rfl,h.1⟩
 |y::lL,v::vs,h,i+1,x,hx=>by
  simp only[fH]at h
  exact fH.get h.2 (by simpa using hx)
theorem Gr(hc:Core c σ a.tmps w M ν){x:Operand}{i:Nat}(ho:o.op= .extract x i){K:eo α}{vs:List aM}{v:aM}(hx:σ.ρ x= .Vb vs)(hi:vs[i]? =some v)
  (h:K v [] []=some r) (hn:dt c σ a o w M ν K r next):o.wp P a w next Q:=by
 have hv:=hc.ev x
 rw[hx]at hv
 simp only[VR]at hv
 obtain⟨us,hu,NJ⟩:=hv
 obtain⟨u,Wc,hvu⟩:=NJ.get hi
 exact aA (xZ ho hu Wc) (hn _ _ _ _ _ M ν h (.refl hc.mem) hvu)
theorem Core.Z0(hc:Core c σ a.tmps w M ν): ∀xs:List Operand,fH w M σ.H ν (xs.map σ.ρ) (xs.map a.eval)
 |[]=>by simp[fH]
 |x::xs=>by simp only[bA,fH];exact⟨hc.ev x,hc.Z0 xs⟩
theorem qp: ∀{lL:List aM} {vs:List Value} {H:Nat→Option aI} {M:Nat→Prop} {K:List aM→List Nat→fu→Option α},Mem c H w M ν→fH w M H ν lL vs→qa H lL K=some r→
  ∃cs rd ups M',K cs rd ups=some r∧Tr c H w M ν (bM H ups) w M' ν∧fH w M' (bM H ups) ν cs vs
 |[],vs,H,M,K,hm,hv,h=>⟨[],[],[],M,h,.refl hm,hv⟩
 |x::xs,[],H,M,K,hm,hv,h=>by simp[fH]at hv
 |x::xs,v::vs,H,M,K,hm,hv,h=>by
  simp only[fH]at hv
  unfold qa at h
  split at h
  ·rename_i id
   split at h
   ·rename_i τ z aF
    obtain⟨M1,b,ht,hb,dv,hM,fR,m2,gK⟩:=Tr.fix hm aF
    obtain⟨cs,rd,ups,M2,hK,NK,Sb⟩:=qp ht.mem (fH.bm ht.bm ht.goes hv.2) h
    refine⟨_,_,_,M2,hK,ht.trans NK,?_⟩
    have h1:VR w M1 (a8 H id (some .gone)) ν (.mw τ z) v:=by
     have HL:=hv.1
     simp only[VR]at HL ⊢
     obtain⟨e,he,gT⟩:=HL
     rw[aF]at he;cases he
     simp only[AR]at gT
     obtain⟨_,b',cY,HL⟩:=gT
     rw[hb]at cY;cases cY
     exact⟨b,0,HL,dv,hM,fR,m2,gK⟩
    simp only[fH]
    exact⟨VR.bm NK.bm NK.goes h1,Sb⟩
   ·cases h
  ·obtain⟨cs,rd,ups,M2,hK,NK,Sb⟩:=qp hm hv.2 h
   refine⟨_,_,_,M2,hK,NK,?_⟩
   simp only[fH]
   exact⟨VR.bm NK.bm NK.goes hv.1,Sb⟩
theorem DA(hc:Core c σ a.tmps w M ν){f:FuncId}{first my:Array Operand}(ho:o.op= .makeFunc (.func f) first my){K:eo α}
  (h:cond first.isEmpty (qa σ.H (my.toList.map σ.ρ) λcs rd ups=>K (.Dh f cs) rd ups) none=some r) (hn:dt c σ a o w M ν K r next):o.wp P a w next Q:=by
 obtain⟨hf,h⟩:=bn h
 obtain⟨cs,rd,ups,M',hK,ht,hv⟩:=qp hc.mem (hc.Z0 _) h
 refine aA (wD ho (by simpa using hf)) (hn _ _ _ _ _ M' ν hK ht ?_)
 simp only[VR]
 exact⟨my.toList.map a.eval,by congr 1;apply fE;simp,hv⟩
theorem Gs(hE:EnvTy P E)(hc:Core c σ a.tmps w M ν){s d:TypeId}{x:Operand}(ho:o.op= .convert s d x){K:eo α}{τ:Ty}{k:IntKind}(hs:E.ty s=some τ)(hd:E.ty d=some (.int k))
  (h:pG (σ.ρ x) (λ_ n=>K (.val (.int k) (W k n)) [] [])=some r) (hn:dt c σ a o w M ν K r next):o.wp P a w next Q:=by
 obtain⟨k',n,hx,h⟩:=jo h
 have hv:=hc.ev x
 rw[hx]at hv
 refine aA (ya ho (hE.ty s τ hs).isSome (hE.ty d _ hd).int hv.int) (hn _ _ _ _ _ M ν h (.refl hc.mem) ?_)
 rw[xO];exact .mkInt k _
end VM
end
