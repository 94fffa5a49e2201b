/- A part of the proof of LotEven of layer 23: a machine that reads a function of the program as an equation between values. -/
import Derived.Test.YthnjnpjmbabcaaaGreatVm1
import Derived.Great.BuildSlice
import Derived.Laws.Tables
set_option linter.all false
open List renaming length→ℓ, getD→γ
section
namespace VM
open Go
theorem kv{α:Type}{r:α}: ∀{τ:Ty} {x:τ.den} {n:Nat} {m:(υ:Ty)→υ.den→(υ.den→Option α)→Option α} {k:τ.den→Option α},fi τ x n m k=some r→
  ∃υ y o k',CS τ x n υ y o∧m υ y k'=some r∧ ∀z r',k' z=some r'→ ∃x',k x'=some r'∧CS τ x' n υ z o∧
   ∀(w:World) (M:Nat→Prop) cs cs',Rd w M τ cs x→Rd w M υ cs' z→Rd w M τ (dI cs o cs') x'
 | .pair a b,x,0,m,k,h=>by
  refine⟨a,x.1,0,_,.here x,h,λz r' hz=>⟨(z,x.2),hz,.here (a:=a) (b:=b) (z,x.2),λw M cs cs' hr eV=> ?_⟩⟩
  simp only[Rd]at hr ⊢
  obtain⟨c1,c2,rfl,h1,h2⟩:=hr
  refine⟨cs',c2,?_,eV,h2⟩
  rw[Aq (by rw[eV.length,h1.length];omega)]
  congr 1
  unfold dI
  rw[fh,eV.length,←h1.length];simp
 | .pair a b,x,n+1,m,k,h=>by
  obtain⟨υ,y,o,k',hf,hm,hk⟩:=kv (τ:=b) (x:=x.2) (n:=n) (m:=m) (k:=λz=>k (x.1,z)) h
  refine⟨υ,y,_,k',.there x hf,hm,λz r' hz=> ?_⟩
  obtain⟨x',qt,yx,kd⟩:=hk z r' hz
  refine⟨(x.1,x'),qt,.there (a:=a) (b:=b) (x.1,x') yx,λw M cs cs' hr eV=> ?_⟩
  simp only[Rd]at hr ⊢
  obtain⟨c1,c2,rfl,h1,h2⟩:=hr
  refine⟨c1,_,?_,h1,kd w M c2 cs' h2 eV⟩
  rw[←h1.length,xM]
 | .int _,_,_,_,_,h| .bool,_,_,_,_,h| .str,_,_,_,_,h| .slice _,_,_,_,_,h| .unit,_,_,_,_,h| .arr _ _,_,_,_,_,h=>by simp[fi]at h
def pO(w:World)(M:Nat→Prop)(e:Ty)(cs:List Value)(l:List e.den):Prop:=
 ∀i (h:i<l.length),Rd w M e ((cs.drop (i*e.size)).take e.size) l[i]
theorem dJ{i n s:Nat}(h:i<n):i*s+s≤n*s:=by
 have:(i+1)*s≤n*s:=jh _ h
 rw[dR,kg]at this;exact this
theorem pO.set{w:World}{M:Nat→Prop}{e:Ty}{cs:List Value}{l:List e.den}(h:pO w M e cs l)(hl:l.length*e.size≤cs.length){i:Nat}(hi:i<l.length){cs':List Value}{y:e.den}(hr:Rd w M e cs' y):
  pO w M e (dI cs (i*e.size) cs') (l.set i y):=by
 have hlen:=hr.length
 intro j hj
 rw[bs]at hj
 have h1:=dJ (s:=e.size) hi
 have h2:=dJ (s:=e.size) hj
 by_cases mj:j=i
 ·subst mj
  have:=agT (a:=cs) (o:=j*e.size) (new:=cs') ω
  rw[hlen]at this
  rw[this,List.getElem_set_self];exact hr
 ·rw[EE (by
   rcases Nat.lt_or_gt_of_ne mj with dU|dU
   ·have:=dJ (s:=e.size) dU;left;omega
   ·have:=dJ (s:=e.size) dU;right;omega) ω,List.getElem_set_ne (dz mj)]
  exact h j hj
theorem pO.append{w:World}{M:Nat→Prop}{e:Ty}{c1 c2:List Value}{l1 l2:List e.den}(h1:pO w M e c1 l1)(hl:c1.length=l1.length*e.size)(h2:pO w M e c2 l2):pO w M e (c1++c2) (l1++l2):=by
 intro i hi
 by_cases dU:i<l1.length
 ·have:=dJ (s:=e.size) dU
  rw[wx ω,wv (by rw[dy];omega),zJ dU]
  exact h1 i dU
 ·rw[aX]at hi
  obtain⟨k,rfl⟩: ∃k,i=l1.length+k:=⟨i-l1.length,ω⟩
  rw[dR,←hl,←ji,lH rfl,E9 ω]
  simp only[zK]
  exact h2 k ω
theorem pO.take{w:World}{M:Nat→Prop}{e:Ty}{cs:List Value}{l:List e.den}(h:pO w M e cs l){n:Nat}(hn:l.length*e.size≤n):pO w M e (cs.take n) l:=by
 intro i hi
 have:=dJ (s:=e.size) hi
 rw[ra,rf,fT ω]
 exact h i hi
theorem pO.more{w:World}{M:Nat→Prop}{e:Ty}{cs cs':List Value}{l:List e.den}(h:pO w M e cs l)(hl:l.length*e.size≤cs.length):pO w M e (cs++cs') l:=by
 intro i hi
 have:=dJ (s:=e.size) hi
 rw[wx ω,wv (by rw[dy];omega)]
 exact h i hi
theorem pO.bG{w w':World}{M M':Nat→Prop}(k:dP w M w' M'){e:Ty}{cs:List Value}{l:List e.den}(h:pO w M e cs l):pO w' M' e cs l:=λi hi=>(h i hi).bG k
theorem Rd.arr{w:World}{M:Nat→Prop}{n:Nat}{e:Ty}{cs:List Value}{x:(Ty.arr n e).den}:Rd w M (.arr n e) cs x↔ℓ x=n∧cs.length=n*e.size∧pO w M e cs x:=by
 constructor
 ·intro h
  have hl:=h.length
  have h':=h
  simp only[Rd]at h'
  refine⟨h'.1,hl,λi hi=> ?_⟩
  have:=h.idx (i:=i) ω
  rw[kT x i e.zero hi]at this
  exact this
 ·rintro⟨hn,hl,hr⟩
  simp only[Rd]
  refine⟨hn,(List.range n).map λi=>(cs.drop (i*e.size)).take e.size,by simp,?_,λi hi mz=> ?_⟩
  ·
   have key: ∀m (l:List Value),l.length=m*e.size→l=((List.range m).map λi=>(l.drop (i*e.size)).take e.size).flatten:=by
    intro m
    induction m with
    |zero=>intro l hl;simpa using hl
    |succ m ih=>
     intro l hl
     have h1:(l.take (m*e.size)).length=m*e.size:=by rw[bE,hl,dR];omega
     have h2:=ih (l.take (m*e.size)) h1
     rw[Fw,dL,List.flatten_append]
     have h3:((List.range m).map λi=>(l.drop (i*e.size)).take e.size)=(List.range m).map λi=>((l.take (m*e.size)).drop (i*e.size)).take e.size:=by
      apply mc
      intro i hi
      have:=dJ (s:=e.size) (nj.1 hi)
      rw[ra,rf,fT ω]
     rw[h3,←h2]
     simp only[bZ,gY,zW,List.flatten_nil,cN]
     rw[gh (l:=l.drop (m*e.size)) (by rw[dy,hl,dR];omega),iG]
   exact key n cs hl
  ·simp only[Ft,zU]
   exact hr i hi
theorem pe{α:Type}{r:α}{υ:Ty}{y:υ.den}: ∀{p:List Step} {τ:Ty} {x:τ.den} {k:τ.den→Option α},we υ y p τ x k=some r→
  ∃z,k z=some r∧Im p τ=υ∧(yz p τ→cn p τ+υ.size≤τ.size)∧ ∀(w:World) (M:Nat→Prop) cs cs',yz p τ→Rd w M τ cs x→Rd w M υ cs' y→Rd w M τ (dI cs (cn p τ) cs') z
 |[],τ,x,k,h=>by
  obtain⟨e,h⟩:=bh (h:cr υ τ y k=some r)
  subst e
  refine⟨y,h,rfl,λ_=>by simp[cn],λw M cs cs' _ hr eV=> ?_⟩
  unfold dI
  rw[show cn [] υ=0 from rfl,fh,eV.length,←hr.length]
  simpa using eV
 | .gr n::p,τ,x,k,h=>by
  obtain⟨υ',y',o,k',hf,hm,hk⟩:=kv (h:fi τ x n _ k=some r)
  obtain⟨z',H6,ht,H7,kd⟩:=pe (p:=p) (τ:=υ') (x:=y') (k:=k') hm
  obtain⟨x',qt,yx,Tn⟩:=hk z' r H6
  obtain⟨h1,h2⟩:=hf.eq
  subst h1 h2
  refine⟨x',qt,ht,λhi=>by have:=hf.bound;have:=H7 hi;simp only[cn];omega,λw M cs cs' hi hr eV=> ?_⟩
  have H7:=H7 hi
  have h3:=kd w M _ cs' hi (hf.rd hr) eV
  have h4:=Tn w M cs _ hr h3
  have hb:=hf.bound
  have Vn:=hr.length
  have hl2:=eV.length
  have Y2:=h3.length
  have mi:cn p (sA τ n)+cs'.length≤((cs.drop (fF τ n)).take (sA τ n).size).length:=by
   rw[bE,dy];omega
  have:dI cs (fF τ n) (dI ((cs.drop (fF τ n)).take (sA τ n).size) (cn p (sA τ n)) cs')=dI cs (fF τ n+cn p (sA τ n)) cs':=by
   have e1:cs=cs.take (fF τ n)++(((cs.drop (fF τ n)).take (sA τ n).size)++cs.drop (fF τ n+(sA τ n).size)):=by
    rw[←ji,iG,iG]
   have dU:(cs.take (fF τ n)).length=fF τ n:=by rw[bE];omega
   conv=>rhs;rw[e1]
   rw[show fF τ n+cn p (sA τ n)=(cs.take (fF τ n)).length+cn p (sA τ n)from by rw[dU],xM,Aq mi]
   generalize dI ((cs.drop (fF τ n)).take (sA τ n).size) (cn p (sA τ n)) cs'=m at Y2 ⊢
   unfold dI
   rw[Y2,bU]
  simp only[cn]
  rw[←this]
  exact h4
 | .idx i::p,τ,x,k,h=>by
  cases τ with
  |arr n e=>
   obtain⟨z',H6,ht,H7,kd⟩:=pe (p:=p) (τ:=e) (x:=γ x i e.zero) (k:=λz=>k (List.set x i z)) h
   refine⟨_,H6,ht,λhi=>by
    obtain⟨⟨n',e',he,mi⟩,mz⟩:=hi
    cases he
    have:=H7 mz
    have hm:=dJ (s:=e.size) mi
    simp only[cn,elT,Ty.size];omega,λw M cs cs' hi hr eV=> ?_⟩
   obtain⟨⟨n',e',he,mi⟩,mz⟩:=hi
   cases he
   have h3:=kd w M _ cs' mz (hr.idx mi) eV
   obtain⟨hn,Vn,MB⟩:=Rd.arr.1 hr
   have hm:=dJ (s:=e.size) mi
   have h4:=MB.set (by rw[Vn,hn];exact aI _) (i:=i) ω h3
   have hl2:=eV.length
   have Y2:=h3.length
   have hch:((cs.drop (i*e.size)).take e.size).length=e.size:=by rw[bE,dy];omega
   have H7:=H7 mz
   have arM:cn p e+cs'.length≤((cs.drop (i*e.size)).take e.size).length:=ω
   have:dI cs (i*e.size) (dI ((cs.drop (i*e.size)).take e.size) (cn p e) cs')=dI cs (i*e.size+cn p e) cs':=by
    have e1:cs=cs.take (i*e.size)++(((cs.drop (i*e.size)).take e.size)++cs.drop (i*e.size+e.size)):=by
     rw[←ji,iG,iG]
    have dU:(cs.take (i*e.size)).length=i*e.size:=by rw[bE];omega
    conv=>rhs;rw[e1]
    rw[show i*e.size+cn p e=(cs.take (i*e.size)).length+cn p e from by rw[dU],xM,Aq arM]
    generalize dI ((cs.drop (i*e.size)).take e.size) (cn p e) cs'=m at Y2 ⊢
    unfold dI
    rw[Y2,bU]
   simp only[cn,elT]
   rw[←this]
   refine Rd.arr.2 ⟨by rw[bs];exact hn,?_,h4⟩
   rw[dv (by rw[Y2];omega)];exact Vn
  |_=>simp[we,Ez]at h
theorem Rd.al1{w:World}{M:Nat→Prop}{τ υ:Ty}{cs:List Value}{x:τ.den}(e:τ=υ)(h:Rd w M τ cs x):Rd w M υ cs (e▸x):=by subst e;exact h
theorem FO{α:Type}{r:α}{e:Ty}{l:List e.den}: ∀{τ:Ty} {n:Nat} {z:τ.den} {k:τ.den→Option α},fi τ z n (fun υ' _ k'=>cr (.slice e) υ' l k') k=some r→
  ∃x,k x=some r∧fi τ z n (fun υ' _ k'=>cr (.slice e) υ' l k') some=some x∧uV τ x n (fun υ y=>cr υ (.slice e) y some)=some l∧ ∀l':List e.den,∃z0,
   (∀(β:Type) (k':τ.den→Option β),fi τ x n (fun υ' _ k'=>cr (.slice e) υ' l' k') k'=k' z0)∧ ∀(β:Type) (k':τ.den→Option β),fi τ z n (fun υ' _ k'=>cr (.slice e) υ' l' k') k'=k' z0
 | .pair a b,0,z,k,h=>by
  have h1:cr (.slice e) a l (λw=>k (w,z.2))=some r:=h
  obtain⟨e1,h2⟩:=bh h1
  clear h1 h
  subst e1
  exact⟨_,h2,by simp[fi,cr],by simp[uV,cr],λl'=>⟨(l',z.2),λβ k'=>by simp[fi,cr],λβ k'=>by simp[fi,cr]⟩⟩
 | .pair a b,n+1,z,k,h=>by
  obtain⟨x,h1,h0,h2,h3⟩:=FO (τ:=b) (n:=n) (z:=z.2) (k:=λw=>k (z.1,w)) h
  refine⟨(z.1,x),h1,?_,h2,λl'=> ?_⟩
  ·obtain⟨z0,h4,h5⟩:=h3 l
   have h6:=h5 _ some
   rw[h0]at h6
   cases h6
   exact h5 _ λw=>some (z.1,w)
  obtain⟨z0,h4,h5⟩:=h3 l'
  exact⟨(z.1,z0),λβ k'=>h4 β λw=>k' (z.1,w),λβ k'=>h5 β λw=>k' (z.1,w)⟩
 | .int _,_,_,_,h| .bool,_,_,_,h| .str,_,_,_,h| .slice _,_,_,_,h| .unit,_,_,_,h| .arr _ _,_,_,_,h=>by simp[fi]at h
end VM
end
section
namespace VM
open Go
variable{P:Program}{E:Env}{o:Oper}{a:Act}{w:World}{M:Nat→Prop}{ν:Nat→Value}{σ:St}{c:Ctx}{α:Type}{r:α}{next:Act→World→Prop}{Q:Exit→Act→World→Prop}
theorem aS{v:Value}{w':World}(h:(execOp a.eval o).run P w= .ok (.value v) w')(hn:next (a.put o.dst v) w'):o.wp P a w next Q:=by
 unfold Oper.wp Oper.upon;rw[h];exact hn
theorem mA{w':World}(h:(execOp a.eval o).run P w= .ok .skip w')(hn:next (a.put o.dst undef) w'):o.wp P a w next Q:=by
 unfold Oper.wp Oper.upon;rw[h];exact hn
def eW(c:Ctx)(σ:St)(a:Act)(o:Oper)(w:World)(M:Nat→Prop)(ν:Nat→Value)(K:fV α)(r:α)(next:Act→World→Prop):Prop:=
 ∀v rd ups v' w' M' ν',K v rd ups=some r→Tr c σ.H w M ν (cj σ.H ups) w' M' ν'→VR w' M' (cj σ.H ups) ν' v v'→next (a.put o.dst v') w'
theorem Core.ev(h:Core c σ a.tmps w M ν)(x:Operand):VR w M σ.H ν (σ.ρ x) (a.eval x):=h.op a.defers x
theorem nu{x:bk}{k:IntKind→Int→Option α}(h:wg x k=some r): ∃(i:IntKind) (n:Int),x= .val (.int i) n∧k i n=some r:=by
 unfold wg at h
 split at h
 ·exact⟨_,_,rfl,h⟩
 ·cases h
theorem VR.int{H:Nat→Option aW}{k:IntKind}{n:Int}{v:Value}(h:VR w M H ν (.val (.int k) n) v):v= .int k n:=by
 simp only[VR,V,Ty.isAgg,gW,eo,Rd,eN,eA]at h;exact h
theorem VR.bool{H:Nat→Option aW}{b:Bool}{v:Value}(h:VR w M H ν (.val .bool b) v):v= .bool b:=by
 simp only[VR,V,Ty.isAgg,gW,eo,Rd,eN,eA]at h;exact h
theorem VR.str{H:Nat→Option aW}{b:ByteArray}{v:Value}(h:VR w M H ν (.val .str b) v):v= .string b:=by
 simp only[VR,V,Ty.isAgg,gW,eo,Rd,eN,eA]at h;exact h
theorem VR.mkInt{H:Nat→Option aW}(k:IntKind)(n:Int):VR w M H ν (.val (.int k) n) (.int k n):=by simp[VR,V,Ty.isAgg,Rd]
theorem VR.u6{H:Nat→Option aW}(b:Bool):VR w M H ν (.val .bool b) (.bool b):=by simp[VR,V,Ty.isAgg,Rd]
theorem VR.mkStr{H:Nat→Option aW}(b:ByteArray):VR w M H ν (.val .str b) (.string b):=by simp[VR,V,Ty.isAgg,Rd]
theorem RM(hc:Core c σ a.tmps w M ν){x:Operand}(ho:o.op= .move x∨o.op= .assign x){K:fV α}(h:K (σ.ρ x) [] []=some r)(hn:eW c σ a o w M ν K r next):o.wp P a w next Q:=by
 have hr:(execOp a.eval o).run P w= .ok (.value (a.eval x)) w:=by
  rcases ho with ho|ho
  ·simp[execOp,ho]
  ·simp[execOp,ho]
 exact aS hr (hn _ _ _ _ _ _ _ h (.refl hc.mem) (hc.ev x))
theorem Zu(hc:Core c σ a.tmps w M ν){x y z:Operand}(ho:o.op= .pick x y z){K:fV α}{t:Bool}(hx:σ.ρ x= .val .bool t)(h:cond t (K (σ.ρ y) [] []) (K (σ.ρ z) [] [])=some r)
  (hn:eW c σ a o w M ν K r next):o.wp P a w next Q:=by
 have hv:=hc.ev x
 rw[hx]at hv
 refine aS (MA ho hv.bool) ?_
 cases t
 ·exact hn _ _ _ _ _ _ _ h (.refl hc.mem) (hc.ev z)
 ·exact hn _ _ _ _ _ _ _ h (.refl hc.mem) (hc.ev y)
theorem ky{H:Nat→Option aW}{id:Nat}{e:aW}{K:Option α}(h:qn H id e K=some r):H id=none∧K=some r:=by
 unfold qn at h
 split at h
 ·rename_i h';exact⟨h',h⟩
 ·cases h
theorem VR.afs{H:Nat→Option aW}{id:Nat}{τ:Ty}{x:τ.den}{b:Nat}(hid:H id=some (.obj τ x))(hν:ν id= .pointer (some ⟨b,0,none⟩)):VR w M H ν (.ic id []) (.pointer (some ⟨b,0,none⟩)):=by
 simp only[VR]
 exact⟨_,hid,trivial,b,hν,rfl⟩
theorem VR.VJ{H:Nat→Option aW}{id:Nat}{τ:Ty}{x:τ.den}{q:List Step}{j b:Nat}(hid:H id=some (.fv τ x q j))(hν:ν id= .pointer (some ⟨b,0,none⟩)):VR w M H ν (.ic id []) (.pointer (some ⟨b,0,none⟩)):=by
 simp only[VR]
 exact⟨_,hid,trivial,b,hν,rfl⟩
theorem eX(τ:Ty):(bD τ τ.bS).cells.toList=τ.bS:=Il (Rd.zero default (λ_=>False) τ)
theorem MC: ∀{τ:Ty} {n:Nat} {a:Ty},yr τ n=some a→ ∃l m,τ.bS=l++(a.bS++m)∧l.length=fF τ n:=by
 intro τ
 induction τ with
 |pair a b _ VI=>
  intro n c h
  cases n with
  |zero=>cases h;exact⟨[],b.bS,rfl,rfl⟩
  |succ n=>
   obtain⟨l,m,h1,h2⟩:=VI (n:=n) (a:=c) h
   refine⟨a.bS++l,m,by simp only[Ty.bS];rw[h1,bU],?_⟩
   rw[aX,h2,(Rd.zero default (λ_=>False) a).length];rfl
 |_=>intro n c h;simp[yr]at h
theorem Aw: ∀{p:List Step} {τ υ:Ty},eR p τ υ=true→ ∃l m,τ.bS=l++(υ.bS++m)∧l.length=cn p τ
 |[],τ,υ,h=>by
  have h:=bl h
  subst h
  exact⟨[],[],by simp,rfl⟩
 | .gr n::p,τ,υ,h=>by
  unfold eR at h
  split at h
  ·rename_i a ha
   obtain⟨l,m,h1,h2⟩:=MC ha
   obtain⟨l',m',h3,h4⟩:=Aw h
   obtain⟨_,_,hf⟩:=kq ha τ.zero
   have:=hf.eq.1
   subst this
   refine⟨l++l',m'++m,by rw[h1,h3];simp,?_⟩
   rw[aX,h2,h4];rfl
  ·cases h
 | .idx _::_,_,_,h=>by simp[eR]at h
theorem BR{p:List Step}{τ e:Ty}(h:eR p τ (.slice e)=true):τ.bS[cn p τ]? =some (.slice none 0 0):=by
 obtain⟨l,m,h1,h2⟩:=Aw h
 rw[h1,oJ ω,h2,ri];rfl
theorem bN{b:Bool}{K:Option α}(h:cond b K none=some r):b=true∧K=some r:=by
 cases b
 ·cases h
 ·exact⟨rfl,h⟩
theorem Kq{τ:Ty}{q:List Step}{e:Ty}(h:lkT E τ=some (q,e)):eR q τ (.slice e)=true:=by
 unfold lkT at h
 split at h
 ·rename_i υ q' e' _ _
  cases hd:decide (υ=τ)<;>rw[hd]at h
  ·cases h
  ·simp only[aj]at h
   cases hp:eR q' τ (.slice e')<;>rw[hp]at h
   ·cases h
   ·cases h;exact hp
 ·cases h
theorem ru{τ:Ty}{id:Nat}{q:List Step}{e:Ty}(h:Ik E τ id=some (q,e)):eR q τ (.slice e)=true:=by
 unfold Ik at h
 split at h
 ·exact Kq (bN h).2
 ·cases h
theorem FP{H:Nat→Option aW}{id:Nat}{τ:Ty}{x:τ.den}{q:List Step}{e:Ty}{K:fV α}(h:DX H id τ x q e K=some r):H id=none∧H (id+1)=none∧K (.ic id []) [id,id+1] [(id,some (.fv τ x q (id+1))),(id+1,some (.own e []))]=some r:=by
 unfold DX at h
 obtain⟨h1,h⟩:=ky h
 obtain⟨h2,h⟩:=ky h
 exact⟨h1,h2,h⟩
theorem Tp{H:Nat→Option aW}{i j:Nat}{u v:Option aW}(h:i≠j):bc (bc H i u) j v=bc (bc H j v) i u:=by
 funext k
 by_cases hi:k=i
 ·subst hi;rw[av _ _ h,ar,ar]
 ·by_cases hj:k=j
  ·subst hj;rw[ar,av _ _ hi,ar]
  ·rw[av _ _ hj,av _ _ hi,av _ _ hi,av _ _ hj]
theorem y7{H:Nat→Option aW}{i:Nat}{u v:Option aW}:bc (bc H i u) i v=bc H i v:=by
 funext k
 by_cases hi:k=i
 ·subst hi;rw[ar,ar]
 ·rw[av _ _ hi,av _ _ hi,av _ _ hi]
theorem Tr.VK{H:Nat→Option aW}(h:Mem c H w M ν){id k:Nat}(hk:H k=none){τ:Ty}{x:τ.den}(hid:H id=some (.obj τ x)){b:Nat}{cs:Array Value}{t:TypeId}(hb:ν id= .pointer (some ⟨b,0,none⟩))(hg:w.heap[b]? =some (.cells cs t (0,0)))
  {q:List Step} {e:Ty} (hq:eR q τ (.slice e)=true) {ad:Option Addr} (hz:cs.toList[cn q τ]? =some (.slice ad 0 0)):
  Tr c H w M ν (cj H [(id,some (.fv τ x q k)),(k,some (.own e []))]) w M (updν ν k (.slice ad 0 0)):=by
 have ij:k≠id:=λe=>by rw[e,hid]at hk;cases hk
 have h2:=Tr.nothing h hk e ad
 have hd2:bc H k (some (.own e [])) id=some (.obj τ x):=by rw[av _ _ (dz ij)];exact hid
 have hν:updν ν k (.slice ad 0 0) id= .pointer (some ⟨b,0,none⟩):=by unfold updν;rw[ah (dz ij)];exact hb
 have hν1:updν ν k (.slice ad 0 0) k= .slice ad 0 0:=by simp[updν]
 have he:=h2.mem.gT id _ hd2
 simp only[ER]at he
 obtain⟨b',cs',t',dj,hg',hM,kd⟩:=he
 rw[hν]at dj;cases dj
 rw[hg]at hg';cases hg'
 have h3:=Tr.Ip h2.mem hd2 trivial (e':= .fv τ x q k) trivial rfl (λ_ _=>by simp) (by
   rw[hν];simp only[ER]
   exact⟨_,cs,t,cs.toList,.slice ad 0 0,rfl,hg,hM,kd,(w4 hz).symm,rfl,e,hq⟩)
  (fun τ' x' p' j' hl=>by
   cases hl
   refine⟨by rw[ar];simp,_,hν,?_⟩
   rw[hν1,cell_of hg,←fR];exact hz)
 rw[Tp (i:=k) (j:=id) ij]at h3
 exact h2.trans h3
theorem Tr.DX{H:Nat→Option aW}(h:Mem c H w M ν){id:Nat}(hid:H id=none)(pR:H (id+1)=none)(t:TypeId){τ:Ty}{cs:Array Value}{x:τ.den}(hr:Rd w M τ cs.toList x){q:List Step}{e:Ty}(hq:eR q τ (.slice e)=true){ad:Option Addr}
  (hz:cs.toList[cn q τ]? =some (.slice ad 0 0)):
  ∃M' ν',Tr c H w M ν (cj H [(id,some (.fv τ x q (id+1))),(id+1,some (.own e []))]) (w.alloc (.cells cs t)) M' ν'∧ν' id= .pointer (some ⟨w.heap.size,0,none⟩):=by
 have h1:=Tr.var h hid t hr
 have h2:=Tr.VK h1.mem (id:=id) (k:=id+1) (by rw[av _ _ ω];exact pR) (ar _ _ _) (by simp[updν]) (Ar w _) hq hz
 have e1:cj (bc H id (some (.obj τ x))) [(id,some (.fv τ x q (id+1))),(id+1,some (.own e []))]=cj H [(id,some (.fv τ x q (id+1))),(id+1,some (.own e []))]:=by
  show bc (bc (bc H id _) id _) (id+1) _=bc (bc H id _) (id+1) _
  rw[y7]
 rw[e1]at h2
 exact⟨_,_,h1.trans h2,by simp[updν]⟩
theorem VL(hE:EnvTy P E)(hc:Core c σ a.tmps w M ν){t:TypeId}(ho:o.op= .alloc t){K:fV α}{τ:Ty}(ht:E.ty t=some τ){id:Nat}
  (h:(match Ik E τ id with
   |some (q,e)=>DX σ.H id τ τ.zero q e K
   |none=>qn σ.H id (.obj τ τ.zero) (K (.ic id []) [id] [(id,some (.obj τ τ.zero))]))=some r) (hn:eW c σ a o w M ν K r next):o.wp P a w next Q:=by
 obtain⟨i,hi,hs,hz,_⟩:=(hE.ty t τ ht).base
 have hr:Rd w M τ (bD τ τ.bS).cells.toList τ.zero:=by rw[eX];exact Rd.zero w M τ
 split at h
 ·rename_i q e qp
  obtain⟨hid,pR,h⟩:=FP h
  obtain⟨M',ν',fG,hν⟩:=Tr.DX hc.mem hid pR t hr (ru qp) (by rw[eX];exact BR (ru qp))
  refine aS (Au ho hi hz w) (hn _ _ _ _ _ M' ν' h fG ?_)
  exact VR.VJ (by show bc _ (id+1) _ id=_;rw[av _ _ ω,ar]) hν
 ·obtain⟨hid,h⟩:=ky h
  refine aS (Au ho hi hz w) (hn _ _ _ _ _ _ _ h (Tr.var hc.mem hid t hr) (VR.afs (ar _ _ _) (by simp[updν])))
theorem RN(hE:EnvTy P E)(hc:Core c σ a.tmps w M ν){t:TypeId}{x:Operand}(ho:o.op= .box t x){K:fV α}{τ:Ty}{id:Nat}
  (h:mw true (σ.ρ x) σ.H τ (λy rd ups=>qn σ.H id (.obj τ y) (K (.ic id []) (id::rd) (ups++[(id,some (.obj τ y))])))=some r) (hn:eW c σ a o w M ν K r next):o.wp P a w next Q:=by
 obtain⟨y,rd,ups,M',h,fG,hV,hz,_⟩:=ku (.refl _) hc.mem (hc.ev x) h
 obtain⟨hid,h⟩:=ky h
 have agZ:cj σ.H ups id=none:=hz.none hid
 have w7:=fG.trans (Tr.var fG.mem agZ t hV.cells)
 refine aS (FJ ho w) (hn _ _ _ _ _ (λb=>M' b∨b=w.heap.size) (updν ν id (.pointer (some ⟨w.heap.size,0,none⟩))) h ?_ ?_)
 ·rw[ed];exact w7
 ·rw[ed];exact VR.afs (ar _ _ _) (by simp[updν])
theorem ag0(hE:EnvTy P E)(hc:Core c σ a.tmps w M ν){t:TypeId}{x:Operand}(ho:o.op= .box t x){K:fV α}{τ:Ty}{id:Nat}
  (h:(match Ik E τ id,σ.ρ x with
   |some ([.gr m],e),.Kh υ y n=>cond (Nat.beq m n) (cr υ τ y λy=>DX σ.H id τ y [.gr m] e K) (mw true (σ.ρ x) σ.H τ (λy rd ups=>qn σ.H id (.obj τ y) (K (.ic id []) (id::rd) (ups++[(id,some (.obj τ y))]))))
   |_,_=>mw true (σ.ρ x) σ.H τ (λy rd ups=>qn σ.H id (.obj τ y) (K (.ic id []) (id::rd) (ups++[(id,some (.obj τ y))]))))=some r) (hn:eW c σ a o w M ν K r next):o.wp P a w next Q:=by
 split at h
 ·rename_i m e υ y n qp hx
  cases hb:Nat.beq m n
  ·rw[hb]at h
   exact RN hE hc ho h hn
  ·rw[hb]at h
   have BS:=eK hb
   subst BS
   simp only[aj]at h
   obtain⟨e1,h⟩:=bh h
   subst e1
   obtain⟨hid,pR,h⟩:=FP h
   have hv:=hc.ev x
   rw[hx]at hv
   simp only[VR]at hv
   obtain⟨hV,cs,ad,hva,hz⟩:=hv
   have tq:(a.eval x).cells.toList=cs.toList:=by rw[hva];rfl
   obtain⟨M',ν',fG,hν⟩:=Tr.DX hc.mem hid pR t hV.cells (ru qp) (ad:=ad) (by rw[tq];simpa [cn]using hz)
   refine aS (FJ ho w) (hn _ _ _ _ _ M' ν' h fG ?_)
   exact VR.VJ (by show bc _ (id+1) _ id=_;rw[av _ _ ω,ar]) hν
 ·exact RN hE hc ho h hn
theorem sV{i:Int}{n:Nat}(h:a7 i n=true):0≤i∧i<(n:Int):=by rw[VB]at h;simpa using h
theorem mM{b:Bool}{K:Option α}(h:cond b none K=some r):b=false∧K=some r:=by
 cases b
 ·exact⟨rfl,h⟩
 ·cases h
theorem CZ(hm:Mem c σ.H w M ν){x:bk}{u:Value}(hv:VR w M σ.H ν x u){K:(υ:Ty)→υ.den→List Nat→Option α}(h:ln x σ.H K=some r):
  ∃υ y rd,K υ y rd=some r∧ ∃b off cs,u= .pointer (some ⟨b,off,none⟩)∧At w b off cs∧Rd w M υ cs y:=by
 unfold ln at h
 split at h
 ·simp only[VR]at hv
  obtain⟨b,off,rfl,_,_,cs,ha,hr⟩:=hv
  exact⟨_,_,_,h,b,off,cs,rfl,ha,hr⟩
 ·rename_i id p
  simp only[VR]at hv
  obtain⟨e,he,jI⟩:=hv
  have jY:=hm.gT id e he
  rw[he]at h
  cases e with
  |obj τ x=>
   obtain⟨υ,y,o',hp,hK⟩:=ko h
   simp only[AR]at jI
   obtain⟨hi,b,hb,rfl⟩:=jI
   simp only[ER]at jY
   obtain⟨b',cs,t,dj,hg,_,hr⟩:=jY
   rw[hb]at dj;cases dj
   have:=hp.eq.2
   subst this
   exact⟨υ,y,_,hK,b,_,_,rfl,At.of_block hg _ _,hp.rd hi hr⟩
  |own e l=>
   simp only[AR]at jI
   obtain⟨i,q,rfl,D1,hi,b,n,cp,hb,rfl⟩:=jI
   obtain⟨υ,y,o',hp,hK⟩:=ko h
   simp only[ER]at jY
   rcases jY with⟨rfl,_⟩|⟨b',cs,t,cap,dj,hg,_,P5,hl,CT,hs,hr⟩
   ·simp at D1
   ·rw[hb]at dj;cases dj
    have:=hp.eq.2
    subst this
    have h1:=hr i D1
    rw[←kT l i e.zero D1]at h1
    have h2:=hp.rd hi h1
    have h3:=hp.bound hi
    rw[ra,ji,rf,fT ω]at h2
    exact⟨υ,y,_,hK,b,_,_,rfl,At.of_block hg _ _,h2⟩
  |oN e l=>
   simp only[AR]at jI
   obtain⟨i,q,rfl,D1,hi,b,n,cp,hb,rfl⟩:=jI
   obtain⟨υ,y,o',hp,hK⟩:=ko h
   simp only[ER]at jY
   have kd:=jY.1
   simp only[Rd,eN,eA]at kd
   obtain⟨a0,cap,ha0,_,hr⟩:=kd
   obtain⟨b',off,rfl,_,_,cs,oO,hrr⟩:=hr i D1
   rw[hb]at ha0;cases ha0
   have:=hp.eq.2
   subst this
   rw[fh]at oO
   have al3:Rd w M e cs (γ l i e.zero):=by rw[kT l i e.zero D1];exact hrr
   have h2:=hp.rd hi al3
   have h3:=hp.bound hi
   have Vn:=al3.length
   refine⟨υ,y,_,hK,b,_,_,rfl,?_,h2⟩
   intro j v hj
   rw[mf]at hj
   split at hj
   ·rw[mg]at hj
    have:=oO _ v hj
    rwa [←o6]at this
   ·cases hj
  |fv _ _ _ _=>cases h
  |eU _ _ _=>cases h
  |gone=>cases h
 ·cases h
theorem Mem.linked{H:Nat→Option aW}(hm:Mem c H w M ν){id:Nat}{τ:Ty}{x:τ.den}{q:List Step}{j:Nat}(hid:H id=some (.fv τ x q j)):
  ∃b cs t jB e,ν id= .pointer (some ⟨b,0,none⟩)∧w.heap[b]? =some (.cells cs t (0,0))∧M b∧Rd w M τ jB x∧cs.toList=dI jB (cn q τ) [ν j]∧(ν j).oneCell'=true∧eR q τ (.slice e)=true∧cn q τ<jB.length∧H j≠none:=by
 have jY:=hm.gT id _ hid
 simp only[ER]at jY
 obtain⟨b,cs,t,jB,u,hb,hg,hM,hr,tq,h1,e,hq⟩:=jY
 obtain⟨hj,b',dj,ub⟩:=hm.fv id _ _ _ _ hid
 rw[hb]at dj;cases dj
 obtain⟨y,o,hp⟩:=tZ hq x
 have dU:cn q τ<jB.length:=by
  have:=hp.bound (kU hq).1
  have h2:=hp.eq.2
  have h3:=hr.length
  have:(Ty.slice e).size=1:=rfl
  omega
 have hu:u=ν j:=by
  rw[cell_of hg,←fR,tq,xN dU]at ub
  exact q7 ub
 subst hu
 exact⟨b,cs,t,jB,e,hb,hg,hM,hr,tq,h1,hq,dU,hj⟩
theorem u7{H:Nat→Option aW}(hm:Mem c H w M ν){id:Nat}{τ:Ty}{x:τ.den}{q:List Step}{j:Nat}(hid:H id=some (.fv τ x q j)){k:τ.den→ig→Option α}(h:BM j q τ x H k=some r):
  ∃z ups M',k z ups=some r∧Tr c H w M ν (cj H ups) w M' ν∧Fz H (cj H ups)∧((∃e l,H j=some (.oN e l)∧ups=[])∨ ∃e l,H j=some (.own e l)∧ups=[(j,some (.oN e l))])∧ ∃b cs t,ν id= .pointer (some ⟨b,0,none⟩)∧w.heap[b]? =some (.cells cs t (0,0))∧M' b∧Rd w M' τ cs.toList z:=by
 obtain⟨b,cs,t,jB,e0,hb,hg,hM,hr,tq,h1,hq,dU,hj⟩:=hm.linked hid
 have VN:=(kU hq).1
 unfold BM at h
 split at h
 ·rename_i e l Ax
  obtain⟨z,hz,xP,H7,ry⟩:=pe h
  obtain⟨M',fG,hV,hM'⟩:=Tr.freeze hm Ax
  refine⟨z,_,M',hz,fG,λi=> ?_,.inr ⟨e,l,Ax,rfl⟩,b,cs,t,hb,hg,?_,?_⟩
  ·by_cases hi:i=j
   ·subst hi;exact .inr ⟨e,l,Ax,ar _ _ _⟩
   ·exact .inl (av _ _ hi)
  ·refine(hM' b).2 ⟨hM,λhjb=> ?_⟩
   have ij:j≠id:=λe=>by rw[e,hid]at Ax;cases Ax
   exact hm.yA j id _ _ b ij Ax trivial hid trivial hjb (by rw[hb];rfl)
  ·rw[tq]
   exact ry w M' jB [ν j] VN (hr.bG fG.bG) (V.slice.1 hV)
 ·rename_i e l Ax
  obtain⟨z,hz,xP,H7,ry⟩:=pe h
  have jY:=hm.gT j _ Ax
  simp only[ER]at jY
  refine⟨z,_,M,hz,.refl hm,.refl H,.inl ⟨e,l,Ax,rfl⟩,b,cs,t,hb,hg,hM,?_⟩
  rw[tq]
  exact ry w M jB [ν j] VN hr jY.1
 ·cases h
theorem ak8{τ υ:Ty}{t:TypeId}(hE:EnvTy P E)(ht:E.ty t=some τ)(h:eR ([]:List Step) υ τ=true):υ=τ:=bl h
theorem Rd.ag1{e:Ty}{v:Value}{cs:List Value}{l:List e.den}(h:Rd w M (.slice e) cs l): ∃a n cap,cs=[.slice a n cap]:=by
 simp only[Rd]at h
 obtain⟨a,cap,rfl,_⟩:=h
 exact⟨a,_,cap,rfl⟩
theorem yN{ρ:Operand→Value}{t:TypeId}{x:Operand}(ho:o.op= .load t x){τ:Ty}(h:jX P τ t)(ha:τ.isAgg=false){b off:Nat}{v:Value}(hx:ρ x= .pointer (some ⟨b,off,none⟩))(hc:w.cell? ⟨b,off,none⟩=some v):
  (execOp ρ o).run P w= .ok (.value v) w:=by
 have:(loadVar t ⟨b,off,none⟩).run P w= .ok v w:=by
  simp[loadVar,qP h,ha,load,Sem.run,hc]
 simp[execOp,ho,hx,Instr.loadAt,Instr.sureAddr,this]
theorem MD(hE:EnvTy P E)(hc:Core c σ a.tmps w M ν){t:TypeId}{x:Operand}(ho:o.op= .load t x){K:fV α}{τ:Ty}(ht:E.ty t=some τ)
  (h:ln (σ.ρ x) σ.H (fun υ y rd=>cr υ τ y λz=>K (.val τ z) rd [])=some r) (hn:eW c σ a o w M ν K r next):o.wp P a w next Q:=by
 obtain⟨υ,y,rd,h,b,off,cs,hu,oO,hr⟩:=CZ hc.mem (hc.ev x) h
 obtain⟨e,h⟩:=bh h
 subst e
 refine aS (w5 ho (hE.ty t _ ht) hu oO hr) (hn _ _ _ _ _ _ _ h (.refl hc.mem) ?_)
 simp only[VR]
 exact V.bD hr
theorem RO(hE:EnvTy P E)(hc:Core c σ a.tmps w M ν){t:TypeId}{x:Operand}(ho:o.op= .load t x){K:fV α}{τ:Ty}(ht:E.ty t=some τ)
  (h:tX τ (σ.ρ x) σ.H K=some r) (hn:eW c σ a o w M ν K r next):o.wp P a w next Q:=by
 unfold tX at h
 simp only at h
 split at h
 ·rename_i id p hx
  split at h
  ·rename_i υ z q j hid
   have hv:=hc.ev x
   rw[hx]at hv
   simp only[VR]at hv
   obtain⟨e1,Ay,jI⟩:=hv
   rw[hid]at Ay;cases Ay
   simp only[AR]at jI
   obtain⟨hi,b,hb,hu⟩:=jI
   obtain⟨b',cs,te,jB,e0,dj,hg,hM,hr,tq,h1,hq,dU,hj⟩:=hc.mem.linked hid
   rw[hb]at dj;cases dj
   cases hp:Ii p q
   ·rw[hp]at h
    cases EF:yq p q
    ·
     rw[EF]at h
     simp only[au]at h
     obtain⟨υ',y,o',yB,h⟩:=ko h
     obtain⟨e2,h⟩:=bh h
     subst e2
     have hap:=yB.apart hi hq EF
     have ho':=yB.eq.2
     subst ho'
     have H7:=yB.bound hi
     have hlen:=hr.length
     have kd:Rd w M υ' ((cs.toList.drop (cn p υ)).take υ'.size) y:=by
      rw[tq,EE (by simp only[aJ];omega) (by simp only[aJ];omega)]
      exact yB.rd hi hr
     refine aS (w5 ho (hE.ty t _ ht) hu (At.of_block hg _ _) kd) (hn _ _ _ _ _ M ν h (.refl hc.mem) ?_)
     simp only[VR]
     exact V.bD kd
    ·
     rw[EF]at h
     simp only[au,aj]at h
     obtain⟨z',ups,M',h,fG,_,_,b2,RP,t2,qO,RQ,Kr,xQ⟩:=u7 hc.mem hid h
     rw[hb]at qO;cases qO
     rw[hg]at RQ;cases RQ
     obtain⟨υ',y,o',yB,h⟩:=ko h
     obtain⟨e2,h⟩:=bh h
     subst e2
     have ho':=yB.eq.2
     subst ho'
     have kd:=yB.rd hi xQ
     refine aS (w5 ho (hE.ty t _ ht) hu (At.of_block hg _ _) kd) (hn _ _ _ _ _ M' ν h fG ?_)
     simp only[VR]
     exact V.bD kd
   ·
    rw[hp]at h
    have:=y5 hp
    subst this
    simp only[aj]at h
    obtain⟨Zv,hK⟩:=bN h
    have hτ:τ= .slice e0:=(kU Zv).2.symm.trans (kU hq).2
    subst hτ
    have ub:w.cell? ⟨b,cn p υ,none⟩=some (ν j):=by rw[cell_of hg,←fR,tq,xN dU]
    refine aS (yN ho (hE.ty t _ ht) rfl hu ub) (hn _ _ _ _ _ M ν hK (.refl hc.mem) ?_)
    simp only[VR]
    exact⟨hj,trivial⟩
  ·exact MD hE hc ho ht h hn
 ·exact MD hE hc ho ht h hn
theorem y8{τ:Ty}{n:Nat}(h:uZ τ n=true): ∃e,eR [.gr n] τ (.slice e)=true∧yr τ n=some (.slice e):=by
 unfold uZ at h
 split at h
 ·rename_i e he
  exact⟨e,by simp[eR,he],he⟩
 ·cases h
theorem qQ{τ:Ty}{n:Nat}{e:Ty}(h:eR [.gr n] τ (.slice e)=true):uZ τ n=true:=by
 unfold eR at h
 unfold uZ
 split at h
 ·rename_i a ha
  rw[ha]
  rw[show a= .slice e from bl h]
 ·cases h
theorem FQ{τ:Ty}{n:Nat}(h:uZ τ n=true):τ.isAgg=true:=by
 cases τ<;>first|rfl|(simp[uZ,yr]at h)
theorem VO(hE:EnvTy P E)(hc:Core c σ a.tmps w M ν){t:TypeId}{x:Operand}(ho:o.op= .load t x){K:fV α}{τ:Ty}(ht:E.ty t=some τ)
  (h:An E τ (σ.ρ x) σ.H K=some r) (hn:eW c σ a o w M ν K r next):o.wp P a w next Q:=by
 unfold An at h
 split at h
 ·rename_i id Tq hx
  split at h
  ·rename_i υ z n j hid
   obtain⟨e,h⟩:=bh h
   subst e
   obtain⟨b,cs,te,jB,e0,hb,hg,hM,hr,tq,h1,hq,dU,hj⟩:=hc.mem.linked hid
   have hv:=hc.ev x
   rw[hx]at hv
   simp only[VR]at hv
   obtain⟨e1,Ay,jI⟩:=hv
   rw[hid]at Ay;cases Ay
   simp only[AR]at jI
   obtain⟨hi,b',dj,hu⟩:=jI
   rw[hb]at dj;cases dj
   have hl:cs.toList.length=υ.size:=by rw[tq,dv (by simp only[aJ];omega),hr.length]
   refine aS (FL (P:=P) (cs:=cs.toList) ho (hE.ty t _ ht) (FQ (qQ hq)) hu ?_ hl) (hn (.Ij υ z n j) _ [] _ _ M ν h (.refl hc.mem) ?_)
   ·have:=At.of_block hg 0 cs.toList.length
    rw[c9,fD]at this
    exact this
   ·simp only[VR]
    exact⟨_,jB,rfl,hr,by simpa [cn]using tq,hj,qQ hq⟩
  ·exact RO hE hc ho ht h λv rd ups v' w' M' ν' h1 h2 h3=>hn v (id::rd) ups v' w' M' ν' h1 h2 h3
 ·exact RO hE hc ho ht h hn
theorem Fz.own{H H1:Nat→Option aW}(h:Fz H H1){i:Nat}{e:Ty}{l:List e.den}(hi:H i=some (.own e l)):H1 i=some (.own e l)∨H1 i=some (.oN e l):=by
 rcases h i with h'|⟨e',l',h1,h2⟩
 ·exact .inl (by rw[h',hi])
 ·rw[hi]at h1;cases h1;exact .inr h2
theorem Ts(hE:EnvTy P E)(hc:Core c σ a.tmps w M ν){t:TypeId}{x y:Operand}(ho:o.op= .store t x y){K:fV α}{τ:Ty}(ht:E.ty t=some τ)
  (h:my τ (σ.ρ x) (σ.ρ y) σ.H K=some r) (hn:eW c σ a o w M ν K r next):o.wp P a w next Q:=by
 unfold my at h
 split at h
 ·rename_i id p hx
  obtain⟨z,rd,ups,M',h,fG,hV,hz,kd⟩:=ku (.refl _) hc.mem (hc.ev y) h
  have hv:=hc.ev x
  rw[hx]at hv
  have hvz:=VR.bG fG.bG fG.goes hv
  have u9:=hE.ty t τ ht
  have D2:=hV.cells.length
  rw[ba]at D2
  split at h
  ·rename_i υ x0 hid
   have pR:=hz.obj hid
   obtain⟨x1,hK,xP,H7,ry⟩:=pe h
   simp only[VR]at hvz
   obtain⟨e1,Ay,jI⟩:=hvz
   rw[pR]at Ay;cases Ay
   simp only[AR]at jI
   obtain⟨hi,b,hb,hu⟩:=jI
   have jY:=fG.mem.gT id _ pR
   simp only[ER]at jY
   obtain⟨b',cs,te,dj,hg,hM,hr⟩:=jY
   rw[hb]at dj;cases dj
   have H7:=H7 hi
   have Vn:=hr.length
   rw[ba]at Vn
   have cU:=jl (P:=P) ho u9 hu hg D2 ω hV.cells.kS
   rw[ba]at cU
   have w7:Tr c (cj σ.H ups) w M' ν (bc (cj σ.H ups) id (some (.obj υ x1))) (w.setRow b (dI cs.toList (cn p υ) (a.eval y).cells.toList).toArray) M' ν:=by
    refine Tr.write (e':= .obj υ x1) fG.mem pR trivial trivial rfl (by rw[hb];rfl) hg λI5 hk w8=> ?_
    simp only[ER]
    refine⟨b,_,te,hb,setRow_heap w b cs _ te _ hg,w8,?_⟩
    exact(ry w M' cs.toList _ hi hr hV.cells).bG hk
   refine mA cU ?_
   refine hn _ _ _ _ _ M' ν hK ?_ (by simp[VR])
   rw[ed]
   have:=fG.trans w7
   unfold dI at this
   rw[ba]at this
   exact this
  ·rename_i e l hid
   split at h
   ·rename_i i q h0
    obtain⟨Az,h⟩:=mM h
    have pR:cj σ.H ups id=some (.own e l):=by rw[kd id Az];exact hid
    obtain⟨y1,hK,xP,H7,ry⟩:=pe h
    simp only[VR]at hvz
    obtain⟨e1,Ay,jI⟩:=hvz
    rw[pR]at Ay;cases Ay
    simp only[AR]at jI
    obtain⟨i',q',Zv,D1,hi,b,n,cp,hb,hu⟩:=jI
    cases Zv
    have jY:=fG.mem.gT id _ pR
    simp only[ER]at jY
    rcases jY with⟨rfl,_⟩|⟨b',cs,te,cap,dj,hg,hM,P5,hl,CT,hs,hr⟩
    ·simp at D1
    ·rw[hb]at dj;cases dj
     have H7:=H7 hi
     have kO:=dJ (s:=e.size) D1
     have qN:l.length*e.size≤cp*e.size:=jh _ hl
     have cU:=jl (P:=P) ho u9 hu hg D2 ω hV.cells.kS
     rw[ba]at cU
     have hri:=hr i D1
     rw[←kT l i e.zero D1]at hri
     have nX:=ry w M' _ _ hi hri hV.cells
     have hch:((cs.toList.drop (i*e.size)).take e.size).length=e.size:=hri.length
     have Zw:dI cs.toList (i*e.size) (dI ((cs.toList.drop (i*e.size)).take e.size) (cn q e) (a.eval y).cells.toList)=dI cs.toList (i*e.size+cn q e) (a.eval y).cells.toList:=by
      have Y2:=nX.length
      have e1:cs.toList=cs.toList.take (i*e.size)++(((cs.toList.drop (i*e.size)).take e.size)++cs.toList.drop (i*e.size+e.size)):=by
       rw[←ji,iG,iG]
      have dU:(cs.toList.take (i*e.size)).length=i*e.size:=by rw[bE,ba];omega
      conv=>rhs;rw[e1]
      rw[show i*e.size+cn q e=(cs.toList.take (i*e.size)).length+cn q e from by rw[dU],xM,Aq (by rw[hch,ba];omega)]
      generalize dI ((cs.toList.drop (i*e.size)).take e.size) (cn q e) (a.eval y).cells.toList=m at Y2 ⊢
      unfold dI
      rw[Y2,bU]
     have w7:Tr c (cj σ.H ups) w M' ν (bc (cj σ.H ups) id (some (.own e (List.set l i y1)))) (w.setRow b (dI cs.toList (i*e.size+cn q e) (a.eval y).cells.toList).toArray) M' ν:=by
      refine Tr.write (e':= .own e (List.set l i y1)) fG.mem pR trivial trivial ⟨rfl,by rw[bs]⟩ (by rw[hb];simp[dQ];omega) hg λI5 hk w8=> ?_
      simp only[ER]
      refine .inr ⟨b,_,te,cp,by rw[bs];exact hb,setRow_heap w b cs _ te _ hg,w8,P5,by rw[bs];exact hl,CT,?_,?_⟩
      ·rw[←Zw,iI,dv (by rw[nX.length,ba];omega),ba];exact hs
      ·have h9:cs.toList.length=cp*e.size:=by rw[ba,hs]
       have h10:=pO.set (w:=w) (M:=M') (cs:=cs.toList) (l:=l) hr (by rw[h9];exact qN) D1 nX
       rw[Zw]at h10
       exact λj hj=>(h10 j hj).bG hk
     refine mA cU ?_
     refine hn _ _ _ _ _ M' ν hK ?_ (by simp[VR])
     rw[ed]
     have:=fG.trans w7
     unfold dI at this
     rw[ba]at this
     exact this
   ·cases h
  ·cases h
 ·cases h
theorem Fz.fv{H H1:Nat→Option aW}(h:Fz H H1){i:Nat}{τ:Ty}{x:τ.den}{p:List Step}{j:Nat}(hi:H i=some (.fv τ x p j)):H1 i=some (.fv τ x p j):=by
 rcases h i with h'|⟨e',l',h1,h2⟩
 ·rw[h',hi]
 ·rw[hi]at h1;cases h1
theorem w9{β:Type}{l a:List β}{o:Nat}(hl:o+a.length≤l.length)(i:Nat):(dI l o a)[i]? =if o≤i∧i<o+a.length then a[i-o]? else l[i]? :=by
 unfold dI
 by_cases h1:i<o
 ·rw[ah ω,bU,qj (by simp;omega),mf,ak h1]
 ·by_cases h2:i<o+a.length
  ·rw[ak ω,qj (by simp;omega),oJ (by simp;omega)]
   simp[fT (show o≤l.length by omega)]
  ·rw[ah ω,oJ (by simp;omega)]
   simp only[aX,bE,fT (show o≤l.length by omega),mg]
   congr 1;omega
theorem ME{β:Type}{l a b:List β}{o o':Nat}(h:o'≤o∧o+a.length≤o'+b.length)(h1:o+a.length≤l.length)(h2:o'+b.length≤l.length):dI (dI l o a) o' b=dI l o' b:=by
 have l1:=dv (a:=l) (o:=o) (new:=a) h1
 apply wG
 intro i
 rw[w9 ω,w9 ω,w9 ω]
 by_cases c1:o'≤i∧i<o'+b.length
 ·rw[ak c1,ak c1]
 ·rw[ah c1,ah c1,ah ω]
theorem uc{β:Type}{l:List β}{o:Nat}{u v:β}(h:o<l.length):dI (dI l o [u]) o [v]=dI l o [v]:=
 ME (by simp) (by simp;omega) (by simp;omega)
theorem MF{β:Type}{l a b:List β}{o o':Nat}(h:o+a.length≤o'∨o'+b.length≤o)(h1:o+a.length≤l.length)(h2:o'+b.length≤l.length):dI (dI l o a) o' b=dI (dI l o' b) o a:=by
 have l1:=dv (a:=l) (o:=o) (new:=a) h1
 have l2:=dv (a:=l) (o:=o') (new:=b) h2
 apply wG
 intro i
 rw[w9 ω,w9 ω,w9 ω,w9 ω]
 by_cases c1:o'≤i∧i<o'+b.length
 ·rw[ak c1,ah ω,ak c1]
 ·rw[ah c1]
  by_cases c2:o≤i∧i<o+a.length
  ·rw[ak c2,ak c2]
  ·rw[ah c2,ah c2,ah c1]
theorem MG{m:(υ:Ty)→υ.den→(υ.den→Option α)→Option α}: ∀{τ:Ty} {x:τ.den} {n:Nat} {k:τ.den→Option α},fi τ x n m k=some r→ ∃υ y o k',CS τ x n υ y o∧m υ y k'=some r:=λh=>by
 obtain⟨υ,y,o,k',h1,h2,_⟩:=kv h
 exact⟨υ,y,o,k',h1,h2⟩
theorem FR{υ:Ty}{u:υ.den}: ∀{p:List Step} {τ:Ty} {x:τ.den} {k:τ.den→Option α},we υ u p τ x k=some r→ ∃y o,Km p τ x υ y o
 |[],τ,x,k,h=>by
  obtain⟨e,_⟩:=bh (h:cr υ τ u k=some r)
  subst e
  exact⟨x,0,.nil x⟩
 | .gr n::p,τ,x,k,h=>by
  obtain⟨υ',y,o,k',hf,hm⟩:=MG (h:fi τ x n _ k=some r)
  obtain⟨y',o',hp⟩:=FR (k:=k') hm
  exact⟨y',_,.gr hf hp⟩
 | .idx i::p,τ,x,k,h=>by
  cases τ with
  |arr n e=>
   obtain⟨y',o',hp⟩:=FR (p:=p) (τ:=e) (x:=γ x i e.zero) (k:=λz=>k (List.set x i z)) h
   exact⟨y',_,.idx hp⟩
  |_=>simp[we,Ez]at h
theorem I7: ∀{p q:List Step} {τ e:Ty},yq p q=true→eR q τ (.slice e)=true→cn p τ≤cn q τ∧cn q τ+1≤cn p τ+(Im p τ).size
 |[],q,τ,e,_,hq=>by
  obtain⟨_,_,yB⟩:=tZ hq τ.zero
  have:=yB.bound (kU hq).1
  have h2:=yB.eq.2
  have:(Ty.slice e).size=1:=rfl
  simp only[cn,Im]
  omega
 | .gr a::p,.gr b::q,τ,e,hp,hq=>by
  simp only[yq,bQ]at hp
  have:=eK hp.1
  subst this
  unfold eR at hq
  split at hq
  ·rename_i c hc
   obtain⟨_,_,hf⟩:=kq hc τ.zero
   have:=hf.eq.1
   subst this
   have:=I7 hp.2 hq
   simp only[cn,Im]
   omega
  ·cases hq
 | .gr _::_,[],_,_,hp,_| .gr _::_,.idx _::_,_,_,hp,_| .idx _::_,_,_,_,hp,_=>by simp[yq]at hp
theorem ER.I8{H:Nat→Option aW}(hm:Mem c H w M ν){k:Nat}{e:Ty}{l:List e.den}(hk:H k=some (.own e l)): ∃ad cp,ν k= .slice ad l.length cp:=by
 have:=hm.gT k _ hk
 simp only[ER]at this
 rcases this with⟨rfl,a,hv⟩|⟨b,cs,t,cap,hv,_⟩
 ·exact⟨a,0,hv⟩
 ·exact⟨_,cap,hv⟩
theorem vb(hE:EnvTy P E)(hc:Core c σ a.tmps w M ν){t:TypeId}{x y:Operand}(ho:o.op= .store t x y){K:fV α}{τ:Ty}(ht:E.ty t=some τ){id k:Nat}{q:List Step}{e:Ty}{υ:Ty}{z:υ.den}
  (hx:σ.ρ x= .ic id q) (hy:σ.ρ y= .ref k) {en:aW} (hid:σ.H id=some en) (Zx:en.mut) (AA:en.kt (.fv υ z q k)) (hq:eR q υ (.slice e)=true)
  (lK: ∃b cs te jB u,ν id= .pointer (some ⟨b,0,none⟩)∧w.heap[b]? =some (.cells cs te (0,0))∧Rd w M υ jB z∧cs.toList=dI jB (cn q υ) [u])
  (h:yM τ id k e q υ z σ.H K=some r) (hn:eW c σ a o w M ν K r next):o.wp P a w next Q:=by
 unfold yM at h
 split at h
 ·rename_i e' l hk
  obtain⟨e1,h1⟩:=dt h
  clear h
  subst e1
  obtain⟨e2,h2⟩:=dt h1
  clear h1
  subst e2
  obtain⟨z',hK,xP,H7,ry⟩:=pe h2
  obtain⟨b,cs,te,jB,u,hb,hg,hr,tq⟩:=lK
  have VN:=(kU hq).1
  obtain⟨ad,cp,hνk⟩:=ER.I8 hc.mem hk
  have vQ:=hc.ev y
  rw[hy]at vQ
  simp only[VR]at vQ
  have vQ:=vQ.2
  have H7:=H7 VN
  have hlen:=hr.length
  have I9:(Ty.slice e').size=1:=rfl
  have dU:cn q υ<jB.length:=ω
  have D2:cs.toList.length=jB.length:=by rw[tq];exact dv (by simp;omega)
  have hv:=hc.ev x
  rw[hx]at hv
  simp only[VR]at hv
  obtain⟨e3,he3,jI⟩:=hv
  rw[hid]at he3;cases he3
  have jI:=jI.kt AA
  simp only[AR]at jI
  obtain⟨_,b',dj,hu⟩:=jI
  rw[hb]at dj;cases dj
  have hyc:(a.eval y).cells.toList=[ν k]:=by rw[vQ,hνk];rfl
  have pT:(a.eval y).cells.size=(Ty.slice e').size:=by rw[←ba,hyc];rfl
  have cU:=jl (P:=P) ho (hE.ty t _ ht) hu hg pT (by rw[←ba];omega) (by rw[hyc,hνk];simp[Value.oneCell'])
  have nX:(cs.toList.take (cn q υ)++(a.eval y).cells.toList++cs.toList.drop (cn q υ+(a.eval y).cells.toList.length))=dI jB (cn q υ) [ν k]:=by
   rw[hyc]
   show dI cs.toList (cn q υ) [ν k]=_
   rw[tq,uc dU]
  rw[nX]at cU
  have hrz:Rd w M υ (dI jB (cn q υ) [.slice none 0 0]) z':=ry w M jB [.slice none 0 0] VN hr (Rd.zero w M (.slice e'))
  have fG:Tr c σ.H w M ν (bc σ.H id (some (.fv υ z' q k))) (w.setRow b (dI jB (cn q υ) [ν k]).toArray) M ν:=by
   refine Tr.write (e':= .fv υ z' q k) hc.mem hid Zx trivial (by cases en<;>simp only[aW.kt]at AA ⊢ <;>exact AA) (by rw[hb];rfl) hg (λI5 rz w8=> ?_) (fun τ' x' p' j' hl=> ?_)
   ·simp only[ER]
    refine⟨b,_,te,dI jB (cn q υ) [.slice none 0 0],ν k,hb,setRow_heap w b cs _ te _ hg,w8,hrz.bG rz,?_,by rw[hνk];rfl,e',hq⟩
    rw[uc dU]
   ·cases hl
    refine⟨by rw[hk];simp,b,hb,?_⟩
    rw[cell_of (setRow_heap w b cs _ te _ hg),←fR]
    show(dI jB (cn q υ) [ν k])[cn q υ]? =_
    rw[xN dU]
  exact mA cU (hn _ _ _ _ _ M ν hK fG (by simp[VR]))
 ·cases h
theorem FT(hE:EnvTy P E)(hc:Core c σ a.tmps w M ν){t:TypeId}{x y:Operand}(ho:o.op= .store t x y){K:fV α}{τ:Ty}(ht:E.ty t=some τ)
  (h:kj E τ (σ.ρ x) (σ.ρ y) σ.H K=some r) (hn:eW c σ a o w M ν K r next):o.wp P a w next Q:=by
 have hold:my τ (σ.ρ x) (σ.ρ y) σ.H K=some r→o.wp P a w next Q:=λh=>Ts hE hc ho ht h hn
 unfold kj at h
 simp only at h
 split at h
 ·rename_i id p hx
  have qt:=hx
  split at h
  ·rename_i υ z hid
   split at h
   ·rename_i q e k qp hy
    cases hp:Ii p q
    ·rw[hp]at h;exact hold h
    ·rw[hp]at h
     simp only[aj]at h
     have:=y5 hp
     subst this
     have hq:=ru qp
     have jY:=hc.mem.gT id _ hid
     simp only[ER]at jY
     obtain⟨b,cs,te,hb,hg,hM,hr⟩:=jY
     have dU:cn p υ<cs.toList.length:=by
      obtain⟨_,_,yB⟩:=tZ hq z
      have:=yB.bound (kU hq).1
      have h2:=yB.eq.2
      have:=hr.length
      have:(Ty.slice e).size=1:=rfl
      omega
     refine vb hE hc ho ht hx hy hid trivial rfl hq ⟨b,cs,te,cs.toList,cs.toList[cn p υ],hb,hg,hr,?_⟩ h hn
     exact(w4 (bo dU)).symm
   ·exact hold h
  ·rename_i υ z q j hid
   obtain⟨b,cs,te,jB,e0,hb,hg,hM,hr,tq,h1,hq,dU,hj⟩:=hc.mem.linked hid
   have AB:mw true (σ.ρ y) σ.H τ (λy rd ups=>we τ y p υ z λz=>K .any (id::rd) (ups++[(id,some (cond (yq p q) (.obj υ z) (.fv υ z q j)))]))=some r→o.wp P a w next Q:=by
    intro h
    obtain⟨u,rd,ups,M',h,fG,hV,hz,kd⟩:=ku (.refl _) hc.mem (hc.ev y) h
    have pR:=hz.fv hid
    have hv:=hc.ev x
    rw[hx]at hv
    have hvz:=VR.bG fG.bG fG.goes hv
    simp only[VR]at hvz
    obtain⟨e1,Ay,jI⟩:=hvz
    rw[pR]at Ay;cases Ay
    simp only[AR]at jI
    obtain⟨hi,b1,dA,hu⟩:=jI
    rw[hb]at dA;cases dA
    obtain⟨b2,RP,te2,cs3,e3,qO,RQ,Kr,xQ,Zy,Y3,Y4,Zz,hj2⟩:=fG.mem.linked pR
    rw[hb]at qO;cases qO
    rw[hg]at RQ;cases RQ
    obtain⟨z',hK,xP,H7,ry⟩:=pe h
    have H7:=H7 hi
    have Vn:=xQ.length
    have D2:cs.toList.length=cs3.length:=by rw[Zy];exact dv (by simp;omega)
    have ZA:=hV.cells.length
    rw[ba]at ZA
    have ay4:(a.eval y).cells.toList.length=τ.size:=by rw[ba];exact ZA
    have cU:=jl (P:=P) ho (hE.ty t _ ht) hu hg ZA (by rw[←ba];omega) hV.cells.kS
    have MH:cs.toList.take (cn p υ)++(a.eval y).cells.toList++cs.toList.drop (cn p υ+(a.eval y).cells.toList.length)=dI cs.toList (cn p υ) (a.eval y).cells.toList:=rfl
    rw[MH]at cU
    have hzr:=ry w M' cs3 _ hi xQ hV.cells
    have fin: ∀e',e'.mut→aW.kt (.fv υ z q j) e'→K .any (id::rd) (ups++[(id,some e')])=some r→(∀I5,dP w M' (w.setRow b (dI cs.toList (cn p υ) (a.eval y).cells.toList).toArray) I5→I5 b→ER (w.setRow b (dI cs.toList (cn p υ) (a.eval y).cells.toList).toArray) I5 (ν id) e')→
      (∀τ' x' p' j',e'= .fv τ' x' p' j'→(cj σ.H ups) j'≠none∧ ∃b',ν id= .pointer (some ⟨b',0,none⟩)∧(w.setRow b (dI cs.toList (cn p υ) (a.eval y).cells.toList).toArray).cell? ⟨b',cn p' τ',none⟩=some (ν j'))→o.wp P a w next Q:=by
     intro e' iS HZ hK FI qp
     have w7:=Tr.write (e':=e') fG.mem pR trivial iS HZ (by rw[hb];rfl) hg FI qp
     refine mA cU (hn _ _ _ _ _ M' ν hK ?_ (by simp[VR]))
     rw[ed]
     exact fG.trans w7
    cases EF:yq p q
    ·rw[EF]at hK
     simp only[au]at hK
     obtain⟨yy,oo,yB⟩: ∃y o,Km p υ z τ y o:=FR h
     have hap:=yB.apart hi hq EF
     have hoo:=yB.eq.2
     subst hoo
     have afx:dI cs.toList (cn p υ) (a.eval y).cells.toList=dI (dI cs3 (cn p υ) (a.eval y).cells.toList) (cn q υ) [ν j]:=by
      rw[Zy]
      exact MF (by simp only[aJ];omega) (by simp only[aJ];omega) ω
     have Y2:=dv (a:=cs3) (o:=cn p υ) (new:=(a.eval y).cells.toList) ω
     refine fin (.fv υ z' q j) trivial rfl hK (λI5 hk w8=> ?_) (fun τ' x' p' j' hl=> ?_)
     ·simp only[ER]
      exact⟨b,_,te,_,ν j,hb,setRow_heap w b cs _ te _ hg,w8,hzr.bG hk,afx,h1,e0,hq⟩
     ·cases hl
      refine⟨hj2,b,hb,?_⟩
      rw[cell_of (setRow_heap w b cs _ te _ hg),←fR]
      show(dI cs.toList (cn p υ) (a.eval y).cells.toList)[cn q υ]? =_
      rw[afx,xN ω]
    ·rw[EF]at hK
     simp only[aj]at hK
     refine fin (.obj υ z') trivial rfl hK (λI5 hk w8=> ?_) (fun τ' x' p' j' hl=>by cases hl)
     simp only[ER]
     refine⟨b,_,te,hb,setRow_heap w b cs _ te _ hg,w8,?_⟩
     show Rd _ _ υ (dI cs.toList (cn p υ) (a.eval y).cells.toList) z'
     have mi:=I7 EF hq
     rw[xP]at mi
     have ho:dI cs.toList (cn p υ) (a.eval y).cells.toList=dI cs3 (cn p υ) (a.eval y).cells.toList:=by
      rw[Zy]
      exact ME (by simp only[aJ];omega) (by simp only[aJ];omega) ω
     have h9:=hzr.bG hk
     rw[←ho]at h9
     exact h9
   split at h
   ·rename_i q' e k qp hy
    cases hp:(Ii p q&&Ii q q')
    ·rw[hp]at h;exact AB h
    ·rw[hp]at h
     simp only[aj]at h
     rw[bQ]at hp
     have:=y5 hp.1
     subst this
     have:=y5 hp.2
     subst this
     refine vb hE hc ho ht hx hy hid trivial rfl (ru qp) ⟨b,cs,te,jB,ν j,hb,hg,hr,tq⟩ h hn
   ·exact AB h
  ·exact hold h
 ·exact hold h
theorem Tt(hE:EnvTy P E)(hc:Core c σ a.tmps w M ν){t:TypeId}{x y:Operand}(ho:o.op= .store t x y){K:fV α}{τ:Ty}(ht:E.ty t=some τ)
  (h:tj E τ (σ.ρ x) (σ.ρ y) σ.H K=some r) (hn:eW c σ a o w M ν K r next):o.wp P a w next Q:=by
 unfold tj at h
 split at h
 ·rename_i id υ z n hx hy
  split at h
  ·rename_i m e qp
   cases BS:Nat.beq m n
   ·rw[BS]at h
    simp only[au]at h
    exact FT hE hc ho ht h hn
   ·rw[BS]at h
    simp only[aj]at h
    have BS:=eK BS
    subst BS
    obtain⟨e1,h1⟩:=dt h
    clear h
    subst e1
    have hq:=ru qp
    have vQ:=hc.ev y
    rw[hy]at vQ
    simp only[VR]at vQ
    obtain⟨hV,cs,ad,hva,hz⟩:=vQ
    have ZA:(a.eval y).cells=cs:=by rw[hva];rfl
    obtain⟨en,hid,Zx,hK⟩: ∃en:aW,σ.H id=some en∧(∃z0,en= .obj τ z0∨ ∃q j,en= .fv τ z0 q j)∧σ.H (id+2)=none∧K .any [id,id+2] [(id,some (.fv τ z [.gr m] (id+2))),(id+2,some (.own e []))]=some r:=by
     unfold lx at h1
     split at h1
     ·rename_i υ z0 hid
      obtain⟨e2,h2⟩:=dt h1
      clear h1
      subst e2
      obtain⟨h3,h4⟩:=ky h2
      exact⟨_,hid,⟨z0,.inl rfl⟩,h3,h4⟩
     ·rename_i υ z0 q j hid
      obtain⟨e2,h2⟩:=dt h1
      clear h1
      subst e2
      obtain⟨h3,h4⟩:=ky h2
      exact⟨_,hid,⟨z0,.inr ⟨q,j,rfl⟩⟩,h3,h4⟩
     ·cases h1
     ·cases h1
     ·cases h1
    obtain⟨hk,hK⟩:=hK
    have qu:en.mut:=by rcases Zx with⟨z0,rfl|⟨q,j,rfl⟩⟩<;>trivial
    have AA:en.kt (.obj τ z):=by rcases Zx with⟨z0,rfl|⟨q,j,rfl⟩⟩<;>rfl
    obtain⟨b,jB,te,hb,hg,pT⟩: ∃b jB te,ν id= .pointer (some ⟨b,0,none⟩)∧w.heap[b]? =some (.cells jB te (0,0))∧jB.toList.length=τ.size:=by
     rcases Zx with⟨z0,rfl|⟨q,j,rfl⟩⟩
     ·have:=hc.mem.gT id _ hid
      simp only[ER]at this
      obtain⟨b,jB,te,h2,h3,_,h5⟩:=this
      exact⟨b,jB,te,h2,h3,h5.length⟩
     ·obtain⟨b,jB,te,yO,_,h2,h3,_,h5,h6,_,_,h7,_⟩:=hc.mem.linked hid
      refine⟨b,jB,te,h2,h3,?_⟩
      rw[h6,dv (by simp only[aJ];omega),h5.length]
    have hv:=hc.ev x
    rw[hx]at hv
    simp only[VR]at hv
    obtain⟨e3,he3,jI⟩:=hv
    rw[hid]at he3;cases he3
    have jI:=jI.kt AA
    simp only[AR]at jI
    obtain⟨_,b',dj,hu⟩:=jI
    rw[hb]at dj;cases dj
    have D2:=hV.cells.length
    have cU:=jl (P:=P) ho (hE.ty t _ ht) hu hg (by rw[←ba];exact D2) (by rw[←ba,pT];simp[cn]) hV.cells.kS
    have MH:jB.toList.take (cn [] τ)++(a.eval y).cells.toList++jB.toList.drop (cn [] τ+(a.eval y).cells.toList.length)=(a.eval y).cells.toList:=by
     simp only[cn,nk,cM,fh]
     rw[jN ω,cN]
    rw[MH]at cU
    have ry:=setRow_heap w b jB (a.eval y).cells.toList.toArray te _ hg
    have fG:=Tr.write (e':= .obj τ z) (new:=(a.eval y).cells.toList.toArray) hc.mem hid qu trivial AA (by rw[hb];rfl) hg (λI5 rz w8=>by
     simp only[ER]
     exact⟨b,_,te,hb,ry,w8,hV.cells.bG rz⟩)
    have ij:id+2≠id:=ω
    have w7:=Tr.VK fG.mem (id:=id) (k:=id+2) (by rw[av _ _ ij];exact hk) (ar _ _ _) hb ry hq (ad:=ad) (by rw[ZA];simpa [cn]using hz)
    have e1:cj (bc σ.H id (some (.obj τ z))) [(id,some (.fv τ z [.gr m] (id+2))),(id+2,some (.own e []))]=cj σ.H [(id,some (.fv τ z [.gr m] (id+2))),(id+2,some (.own e []))]:=by
     show bc (bc (bc σ.H id _) id _) (id+2) _=bc (bc σ.H id _) (id+2) _
     rw[y7]
    rw[e1]at w7
    exact mA cU (hn _ _ _ _ _ _ _ hK (fG.trans w7) (by simp[VR]))
  ·exact FT hE hc ho ht h hn
 ·exact FT hE hc ho ht h hn
theorem BT(hE:EnvTy P E)(hc:Core c σ a.tmps w M ν){t:TypeId}{x y:Operand}(ho:o.op= .store t x y){K:fV α}{τ:Ty}(ht:E.ty t=some τ)
  (h:tk E τ (σ.ρ x) (σ.ρ y) σ.H K=some r) (hn:eW c σ a o w M ν K r next):o.wp P a w next Q:=by
 unfold tk at h
 split at h
 ·rename_i id υ z n j hx hy
  split at h
  ·rename_i m e qp
   obtain⟨BS,h0⟩:=bN h
   clear h
   have BS:=eK BS
   subst BS
   obtain⟨e1,h1⟩:=dt h0
   clear h0
   subst e1
   have hq:=ru qp
   have vQ:=hc.ev y
   rw[hy]at vQ
   simp only[VR]at vQ
   obtain⟨cs,jB,hva,hzr,tq,hj,uQ⟩:=vQ
   have ZA:(a.eval y).cells=cs:=by rw[hva];rfl
   obtain⟨en,hid,Zx,h2⟩: ∃en:aW,σ.H id=some en∧(∃z0,en= .obj τ z0∨ ∃q j,en= .fv τ z0 q j)∧(match σ.H j with
    |some (.own e' _)=>iQ e' e (K .any [id,j] [(id,some (.fv τ z [.gr m] j))])
    |_=>none)=some r:=by
    unfold lx at h1
    split at h1
    ·rename_i υ z0 hid
     obtain⟨e2,h2⟩:=dt h1
     clear h1
     subst e2
     exact⟨_,hid,⟨z0,.inl rfl⟩,h2⟩
    ·rename_i υ z0 q j hid
     obtain⟨e2,h2⟩:=dt h1
     clear h1
     subst e2
     exact⟨_,hid,⟨z0,.inr ⟨q,j,rfl⟩⟩,h2⟩
    ·cases h1
    ·cases h1
    ·cases h1
   obtain⟨l,Ax,hK⟩: ∃l,σ.H j=some (.own e l)∧K .any [id,j] [(id,some (.fv τ z [.gr m] j))]=some r:=by
    split at h2
    ·rename_i e' l Ax
     obtain⟨e3,h3⟩:=dt h2
     clear h2
     subst e3
     exact⟨l,Ax,h3⟩
    ·cases h2
   have BP:(ν j).oneCell'=true:=by
    have:=hc.mem.gT j _ Ax
    simp only[ER]at this
    rcases this with⟨_,ad,hv⟩|⟨b,cs,t,cap,hv,_⟩<;>rw[hv]<;>rfl
   have qu:en.mut:=by rcases Zx with⟨z0,rfl|⟨q,j,rfl⟩⟩<;>trivial
   have AA:en.kt (.fv τ z [.gr m] j):=by rcases Zx with⟨z0,rfl|⟨q,j,rfl⟩⟩<;>rfl
   obtain⟨b,RP,te,hb,hg,pT⟩: ∃b RP te,ν id= .pointer (some ⟨b,0,none⟩)∧w.heap[b]? =some (.cells RP te (0,0))∧RP.toList.length=τ.size:=by
    rcases Zx with⟨z0,rfl|⟨q,j,rfl⟩⟩
    ·have:=hc.mem.gT id _ hid
     simp only[ER]at this
     obtain⟨b,jB,te,h2,h3,_,h5⟩:=this
     exact⟨b,jB,te,h2,h3,h5.length⟩
    ·obtain⟨b,jB,te,yO,_,h2,h3,_,h5,h6,_,_,h7,_⟩:=hc.mem.linked hid
     refine⟨b,jB,te,h2,h3,?_⟩
     rw[h6,dv (by simp only[aJ];omega),h5.length]
   have hv:=hc.ev x
   rw[hx]at hv
   simp only[VR]at hv
   obtain⟨e3,he3,jI⟩:=hv
   rw[hid]at he3;cases he3
   have jI:=jI.kt AA
   simp only[AR]at jI
   obtain⟨_,b',dj,hu⟩:=jI
   rw[hb]at dj;cases dj
   obtain⟨y0,o0,hf0⟩:=kq (y8 uQ).choose_spec.2 z
   have hfb:=hf0.bound
   rw[hf0.eq.2]at hfb
   have I9:(Ty.slice (y8 uQ).choose).size=1:=rfl
   rw[I9]at hfb
   have hl0:=hzr.length
   have dU:fF τ m<jB.length:=ω
   have D2:cs.toList.length=τ.size:=by rw[tq,dv (by simp only[aJ];omega),hl0]
   have FU: ∀v∈cs.toList,v.oneCell'=true:=by
    intro v hv
    rw[tq]at hv
    unfold dI at hv
    simp only[bf,cg]at hv
    rcases hv with(hv|hv)|hv
    ·exact hzr.kS v (iH hv)
    ·rw[hv];exact BP
    ·exact hzr.kS v (lZ hv)
   have cU:=jl (P:=P) ho (hE.ty t _ ht) hu hg (by rw[ZA,←ba];exact D2) (by rw[←ba,pT];simp[cn]) (by rw[ZA];exact FU)
   have MH:RP.toList.take (cn [] τ)++(a.eval y).cells.toList++RP.toList.drop (cn [] τ+(a.eval y).cells.toList.length)=cs.toList:=by
    rw[ZA]
    simp only[cn,nk,cM,fh]
    rw[jN ω,cN]
   rw[MH]at cU
   have ry:=setRow_heap w b RP cs.toList.toArray te _ hg
   have al6:cn [.gr m] τ=fF τ m:=by simp[cn]
   have fG:=Tr.write (e':= .fv τ z [.gr m] j) (new:=cs.toList.toArray) hc.mem hid qu trivial AA (by rw[hb];rfl) hg (λI5 rz w8=>by
    simp only[ER]
    exact⟨b,_,te,jB,ν j,hb,ry,w8,hzr.bG rz,by rw[al6];exact tq,BP,e,hq⟩) (fun τ' x' p' j' hl=>by
    cases hl
    refine⟨hj,b,hb,?_⟩
    rw[cell_of ry,al6]
    show cs.toList.toArray[fF τ m]? =_
    rw[wC,tq,xN dU])
   exact mA cU (hn _ _ _ _ _ _ _ hK fG (by simp[VR]))
  ·cases h
 ·exact Tt hE hc ho ht h hn
theorem Tu(hE:EnvTy P E)(hc:Core c σ a.tmps w M ν){t:TypeId}{x y:Operand}(ho:o.op= .store t x y){K:fV α}{τ:Ty}(ht:E.ty t=some τ)
  (h:rr E τ (σ.ρ x) (σ.ρ y) σ.H K=some r) (hn:eW c σ a o w M ν K r next):o.wp P a w next Q:=by
 unfold rr at h
 split at h
 ·rename_i id n k hx hy
  cases hb:agO E id n
  ·rw[hb]at h
   exact BT hE hc ho ht (by rw[hx,hy];exact h) hn
  ·rw[hb]at h
   simp only[aj]at h
   split at h
   ·rename_i υ z q j hid
    cases hp:Ii q [.gr n]
    ·rw[hp]at h
     simp only[au]at h
     split at h
     ·rename_i e Tv
      obtain⟨z',ups,M',h,fG,hfz,_,b,cs,te,hbb,hg,hM,hr⟩:=u7 hc.mem hid h
      have hq:eR [.gr n] υ (.slice e)=true:=by simp[eR,Tv]
      have Vo:Core c ⟨σ.T,cj σ.H ups⟩ a.tmps w M' ν:=⟨fG.mem,λi=>VR.bG fG.bG fG.goes (hc.tmp i)⟩
      have dU:cn [.gr n] υ<cs.toList.length:=by
       obtain⟨y0,o0,hf0⟩:=kq Tv z'
       have h1:=hf0.bound
       have h2:=hf0.eq.2
       have h3:=hr.length
       have h4:(Ty.slice e).size=1:=rfl
       show fF υ n+0<_
       omega
      refine vb (σ:=⟨σ.T,cj σ.H ups⟩) hE Vo ho ht hx hy (hfz.fv hid) trivial rfl hq ⟨b,cs,te,cs.toList,cs.toList[cn [.gr n] υ],hbb,hg,hr,(w4 (bo dU)).symm⟩ h ?_
      intro v rd iR v' w' I5 ν'' hK RS ZB
      refine hn v _ _ v' w' I5 ν'' hK ?_ ?_
      ·rw[ed];exact fG.trans RS
      ·rw[ed];exact ZB
     ·cases h
    ·rw[hp]at h
     exact BT hE hc ho ht (by rw[hx,hy];exact h) λv rd ups v' w' M' ν' h1 h2 h3=>hn v (id::rd) ups v' w' M' ν' h1 h2 h3
   ·rename_i υ z hid
    split at h
    ·rename_i e Tv
     have hq:eR [.gr n] υ (.slice e)=true:=by simp[eR,Tv]
     have jY:=hc.mem.gT id _ hid
     simp only[ER]at jY
     obtain⟨b,cs,te,hbb,hg,hM,hr⟩:=jY
     have dU:cn [.gr n] υ<cs.toList.length:=by
      obtain⟨y0,o0,hf0⟩:=kq Tv z
      have h1:=hf0.bound
      have h2:=hf0.eq.2
      have h3:=hr.length
      have h4:(Ty.slice e).size=1:=rfl
      show fF υ n+0<_
      omega
     exact vb hE hc ho ht hx hy hid trivial rfl hq ⟨b,cs,te,cs.toList,cs.toList[cn [.gr n] υ],hbb,hg,hr,(w4 (bo dU)).symm⟩ h hn
    ·cases h
   ·cases h
 ·exact BT hE hc ho ht h hn
theorem nb{n:Nat}(h:Nat.beq n 0=false):n≠0:=by rw[←lF,wQ]at h;exact h
theorem At.sub{b off:Nat}{cs:List Value}(h:At w b off cs)(o n:Nat):At w b (off+o) ((cs.drop o).take n):=by
 intro j v hj
 rw[mf]at hj
 split at hj
 ·rw[mg]at hj
  have:=h _ v hj
  rwa [←o6]at this
 ·cases hj
def vR:aW→List Step→Option Ty
 | .obj τ _,p=>some (Im p τ)
 | .fv τ _ _ _,p=>some (Im p τ)
 | .own e _,.idx _::p| .oN e _,.idx _::p=>some (Im p e)
 |_,_=>none
theorem FV{id:Nat}{p:List Step}{H:Nat→Option aW}{k:Ty→Option α}(h:lx id p H k=some r): ∃e υ,H id=some e∧vR e p=some υ∧k υ=some r:=by
 unfold lx at h
 split at h
 ·rename_i τ x hid
  obtain⟨υ,y,o,hp,hk⟩:=ko h
  exact⟨_,υ,hid,by simp[vR,hp.eq.1],hk⟩
 ·rename_i τ x _ _ hid
  obtain⟨υ,y,o,hp,hk⟩:=ko h
  exact⟨_,υ,hid,by simp[vR,hp.eq.1],hk⟩
 ·rename_i e l hid
  split at h
  ·obtain⟨υ,y,o,hp,hk⟩:=ko h
   exact⟨_,υ,hid,by simp[vR,hp.eq.1],hk⟩
  ·cases h
 ·rename_i e l hid
  split at h
  ·obtain⟨υ,y,o,hp,hk⟩:=ko h
   exact⟨_,υ,hid,by simp[vR,hp.eq.1],hk⟩
  ·cases h
 ·cases h
theorem AR.step{v:Value}{p:List Step}{u:Value}{e:aW}{υ:Ty}(h:AR v p u e)(ht:vR e p=some υ)(s:Step)(hs:yz [s] υ):
  ∃b off,u= .pointer (some ⟨b,off,none⟩)∧AR v (p++[s]) (.pointer (some ⟨b,off+cn [s] υ,none⟩)) e:=by
 cases e with
 |obj τ x=>
  simp only[vR,eL]at ht
  simp only[AR]at h ⊢
  obtain⟨hi,b,hb,rfl⟩:=h
  subst ht
  exact⟨b,_,rfl,(sT p [s] τ).2 ⟨hi,hs⟩,b,hb,by rw[sS]⟩
 |fv τ x _ _=>
  simp only[vR,eL]at ht
  simp only[AR]at h ⊢
  obtain⟨hi,b,hb,rfl⟩:=h
  subst ht
  exact⟨b,_,rfl,(sT p [s] τ).2 ⟨hi,hs⟩,b,hb,by rw[sS]⟩
 |own e l=>
  simp only[AR]at h ⊢
  obtain⟨i,q,rfl,D1,hi,b,n,cp,hb,rfl⟩:=h
  simp only[vR,eL]at ht
  subst ht
  exact⟨b,_,rfl,i,q++[s],rfl,D1,(sT q [s] e).2 ⟨hi,hs⟩,b,n,cp,hb,by rw[sS,o6]⟩
 |oN e l=>
  simp only[AR]at h ⊢
  obtain⟨i,q,rfl,D1,hi,b,n,cp,hb,rfl⟩:=h
  simp only[vR,eL]at ht
  subst ht
  exact⟨b,_,rfl,i,q++[s],rfl,D1,(sT q [s] e).2 ⟨hi,hs⟩,b,n,cp,hb,by rw[sS,o6]⟩
 |eU _ _ _=>simp[vR]at ht
 |gone=>simp[vR]at ht
theorem BU(hE:EnvTy P E)(hc:Core c σ a.tmps w M ν){t:TypeId}{x:Operand}{n:Nat}(ho:o.op= .fieldAddr t x n){K:fV α}{τ:Ty}(ht:E.ty t=some τ){id:Nat}{p:List Step}(hx:σ.ρ x= .ic id p)
  (h:lx id p σ.H (fun υ=>iQ υ τ (uV τ τ.zero n fun υ' _=>cond (Nat.beq υ'.size 0) none (K (.ic id (p++[.gr n])) [id] [])))=some r) (hn:eW c σ a o w M ν K r next):o.wp P a w next Q:=by
 obtain⟨e,υ,hid,het,h⟩:=FV h
 obtain⟨he_,h_⟩:=dt h
 clear h
 subst he_
 have h:=h_
 clear h_
 obtain⟨υ',y,of,hf,h⟩:=pd h
 obtain⟨hz,h⟩:=mM h
 have hv:=hc.ev x
 rw[hx]at hv
 simp only[VR]at hv
 obtain⟨e',sB,jI⟩:=hv
 rw[hid]at sB;cases sB
 obtain⟨b,off,hu,ag6⟩:=jI.step het (.gr n) trivial
 obtain⟨fs,f,LR,hff,hfo,H8⟩:=(hE.ty t υ ht).gr hf
 obtain⟨v,cU,hvv⟩:=ua (P:=P) ho (w:=w) LR hff H8 (nb hz) hu
 refine aS cU (hn _ _ _ _ _ M ν h (.refl hc.mem) ?_)
 simp only[VR]
 refine⟨e,hid,?_⟩
 rw[hvv,hfo,hf.eq.2]
 simpa [cn]using ag6
theorem AD(hE:EnvTy P E)(hc:Core c σ a.tmps w M ν){t:TypeId}{x:Operand}{n:Nat}(ho:o.op= .fieldAddr t x n){K:fV α}{τ:Ty}(ht:E.ty t=some τ){υ:Ty}{z:υ.den}(hx:σ.ρ x= .rn υ z)
  (h:iQ υ τ (uV υ z n fun υ y=>cond (Nat.beq υ.size 0) none (K (.rn υ y) [] []))=some r) (hn:eW c σ a o w M ν K r next):o.wp P a w next Q:=by
 obtain⟨he,h1⟩:=dt h
 subst he
 obtain⟨υ',y,of,hf,h⟩:=pd h1
 obtain⟨hz,h⟩:=mM h
 have hv:=hc.ev x
 rw[hx]at hv
 simp only[VR]at hv
 obtain⟨b,off,hu,hb,hM,cs,oO,hr⟩:=hv
 obtain⟨fs,f,LR,hff,hfo,H8⟩:=(hE.ty t υ ht).gr hf
 obtain⟨v,cU,hvv⟩:=ua (P:=P) ho (w:=w) LR hff H8 (nb hz) hu
 refine aS cU (hn _ _ _ _ _ M ν h (.refl hc.mem) ?_)
 simp only[VR]
 exact⟨b,off+f.offset,hvv,hb,hM,_,by rw[hfo];exact oO.sub of υ'.size,hf.rd hr⟩
theorem V.agg{τ:Ty}(ha:τ.isAgg=true){v:Value}{x:τ.den}(h:V w M τ v x): ∃cs,v= .agg cs∧Rd w M τ cs.toList x:=by
 unfold V at h;rw[ak ha]at h;exact h
theorem CS.agg{τ:Ty}{x:τ.den}{n:Nat}{υ:Ty}{y:υ.den}{o:Nat}(h:CS τ x n υ y o):τ.isAgg=true:=by cases h<;>rfl
theorem VP(hE:EnvTy P E)(hc:Core c σ a.tmps w M ν){t:TypeId}{x:Operand}{n:Nat}(ho:o.op= .field t x n){K:fV α}{τ:Ty}(ht:E.ty t=some τ){υ:Ty}{z:υ.den}(hx:σ.ρ x= .val υ z)
  (h:iQ υ τ (uV υ z n fun υ y=>K (.val υ y) [] [])=some r) (hn:eW c σ a o w M ν K r next):o.wp P a w next Q:=by
 obtain⟨he,h1⟩:=dt h
 subst he
 obtain⟨υ',y,of,hf,h⟩:=pd h1
 have hv:=hc.ev x
 rw[hx]at hv
 simp only[VR]at hv
 obtain⟨cs,hu,hr⟩:=hv.agg hf.agg
 obtain⟨fs,f,LR,hff,hfo,H8⟩:=(hE.ty t υ ht).gr hf
 have eV:=hf.rd hr
 refine aS (Kp ho LR hff H8 hu (by rw[hfo];exact eV)) (hn _ _ _ _ _ M ν h (.refl hc.mem) ?_)
 simp only[VR]
 rw[hfo]
 exact V.bD eV
theorem Ks(hE:EnvTy P E)(hc:Core c σ a.tmps w M ν){t:TypeId}{x i:Operand}(ho:o.op= .indexAddr t x i){K:fV α}{τ:Ty}(ht:E.ty t=some τ)
  (h:gB τ (σ.ρ x) (σ.ρ i) σ.H K=some r) (hn:eW c σ a o w M ν K r next):o.wp P a w next Q:=by
 unfold gB at h
 obtain⟨k,n,hi,h2⟩:=nu h
 clear h
 have h:=h2
 clear h2
 have MI:=hc.ev i
 rw[hi]at MI
 have MI:=MI.int
 have hv:=hc.ev x
 have u9:=hE.ty t τ ht
 split at h
 ·
  rename_i e
  obtain⟨e',LR,hle⟩:=u9.slice
  split at h
  ·rename_i υ l hx
   obtain⟨e1,h⟩:=bh h
   subst e1
   obtain⟨mi,h⟩:=bN h
   obtain⟨h0,h1⟩:=sV mi
   have h1:n<(ℓ l:Int):=h1
   rw[hx]at hv
   simp only[VR]at hv
   have hv:=V.slice.1 hv
   simp only[Rd,eN,eA]at hv
   obtain⟨ad,cap,hu,ag7,hr⟩:=hv
   obtain⟨b,off,rfl,hb,hM,cs,oO,kd⟩:=hr n.toNat ω
   refine aS (iJ ho LR hle hu MI h0 h1) (hn _ _ _ _ _ M ν h (.refl hc.mem) ?_)
   simp only[VR]
   refine⟨b,_,rfl,hb,hM,cs,oO,?_⟩
   have:Rd w M e cs (γ l n.toNat e.zero):=by rw[kT l n.toNat e.zero ω];exact kd
   exact this
  ·rename_i id hx
   rw[hx]at hv
   simp only[VR]at hv
   obtain⟨_,hu⟩:=hv
   split at h
   ·rename_i e2 l hid
    obtain⟨he_,h_⟩:=dt h
    clear h
    subst he_
    have h:=h_
    clear h_
    obtain⟨mi,h⟩:=bN h
    obtain⟨h0,h1⟩:=sV mi
    have jY:=hc.mem.gT id _ hid
    simp only[ER]at jY
    rcases jY with⟨rfl,_⟩|⟨b,cs,te,cap,hb,hg,hM,P5,hl,CT,hs,hr⟩
    ·simp at h1;omega
    ·rw[hb]at hu
     refine aS (iJ ho LR hle hu MI h0 h1) (hn _ _ _ _ _ M ν h (.refl hc.mem) ?_)
     simp only[VR]
     refine⟨_,hid,?_⟩
     simp only[AR]
     exact⟨n.toNat,[],rfl,ω,trivial,b,_,_,hb,by simp[cn]⟩
   ·rename_i e2 l hid
    obtain⟨he_,h_⟩:=dt h
    clear h
    subst he_
    have h:=h_
    clear h_
    obtain⟨mi,h⟩:=bN h
    obtain⟨h0,h1⟩:=sV mi
    have jY:=hc.mem.gT id _ hid
    simp only[ER]at jY
    obtain⟨kd,hhd⟩:=jY
    simp only[Rd,eN,eA]at kd
    obtain⟨ad,cap,hb,ag7,hr⟩:=kd
    rcases hhd with⟨rfl,_⟩|⟨b,n2,c2,qO⟩
    ·simp at h1;omega
    ·rw[hb]at qO;cases qO
     rw[hb]at hu
     refine aS (iJ ho LR hle hu MI h0 h1) (hn _ _ _ _ _ M ν h (.refl hc.mem) ?_)
     simp only[VR]
     refine⟨_,hid,?_⟩
     simp only[AR]
     exact⟨n.toNat,[],rfl,ω,trivial,b,_,_,hb,by simp[cn]⟩
   ·cases h
  ·cases h
 ·
  rename_i len e
  obtain⟨e',LR,hle⟩:=u9.arr
  split at h
  ·rename_i id p hx
   obtain⟨en,υ,hid,het,h⟩:=FV h
   obtain⟨he_,h_⟩:=dt h
   clear h
   subst he_
   have h:=h_
   clear h_
   obtain⟨mi,h⟩:=bN h
   obtain⟨h0,h1⟩:=sV mi
   rw[hx]at hv
   simp only[VR]at hv
   obtain⟨en',sB,jI⟩:=hv
   rw[hid]at sB;cases sB
   obtain⟨b,off,hu,ag6⟩:=jI.step het (.idx n.toNat) ⟨⟨len,e,rfl,ω⟩,trivial⟩
   refine aS (sU ho LR hle hu MI h0 h1) (hn _ _ _ _ _ M ν h (.refl hc.mem) ?_)
   simp only[VR]
   refine⟨en,hid,?_⟩
   simpa [cn,elT]using ag6
  ·rename_i υ l hx
   obtain⟨e1,h⟩:=bh h
   subst e1
   obtain⟨mi,h⟩:=bN h
   obtain⟨h0,h1⟩:=sV mi
   rw[hx]at hv
   simp only[VR]at hv
   obtain⟨b,off,hu,hb,hM,cs,oO,hr⟩:=hv
   refine aS (sU ho LR hle hu MI h0 h1) (hn _ _ _ _ _ M ν h (.refl hc.mem) ?_)
   simp only[VR]
   exact⟨b,_,rfl,hb,hM,_,oO.sub _ e.size,hr.idx ω⟩
  ·cases h
 ·cases h
theorem D3(hc:Core c σ a.tmps w M ν){x:Operand}(ho:o.op= .nilCheck x){K:fV α}{id:Nat}{p:List Step}(hx:σ.ρ x= .ic id p)
  (h:K (.ic id p) [] []=some r) (hn:eW c σ a o w M ν K r next):o.wp P a w next Q:=by
 have hv:=hc.ev x
 have Y5:=hv
 rw[hx]at hv
 simp only[VR]at hv
 obtain⟨e,he,jI⟩:=hv
 obtain⟨ad,hu⟩:=jI.ptr
 refine aS (vP ho hu) (hn _ _ _ _ _ M ν h (.refl hc.mem) ?_)
 rw[←hu,←hx];exact Y5
theorem BV(hc:Core c σ a.tmps w M ν){x:Operand}(ho:o.op= .nilCheck x){K:fV α}{τ:Ty}{z:τ.den}(hx:σ.ρ x= .rn τ z)
  (h:K (.rn τ z) [] []=some r) (hn:eW c σ a o w M ν K r next):o.wp P a w next Q:=by
 have hv:=hc.ev x
 have Y5:=hv
 rw[hx]at hv
 simp only[VR]at hv
 obtain⟨b,off,hu,_⟩:=hv
 refine aS (vP ho hu) (hn _ _ _ _ _ M ν h (.refl hc.mem) ?_)
 rw[←hu,←hx];exact Y5
theorem jk.get{H:Nat→Option aW}: ∀{qo:List bk} {vs:List Value},jk w M H ν qo vs→ ∀{i:Nat} {x:bk},qo[i]? =some x→ ∃v,vs[i]? =some v∧VR w M H ν x v
 |[],_,_,i,x,hx=>by simp at hx
 |y::qo,[],h,_,_,_=>by simp[jk]at h
 |y::qo,v::vs,h,0,x,hx=>by
  simp only[jk]at h
  simp at hx;subst hx
  exact⟨v,rfl,h.1⟩
 |y::qo,v::vs,h,i+1,x,hx=>by
  simp only[jk]at h
  exact jk.get h.2 (by simpa using hx)
theorem Ql(hc:Core c σ a.tmps w M ν){x:Operand}{i:Nat}(ho:o.op= .extract x i){K:fV α}{vs:List bk}{v:bk}(hx:σ.ρ x= .tup vs)(hi:vs[i]? =some v)
  (h:K v [] []=some r) (hn:eW c σ a o w M ν K r next):o.wp P a w next Q:=by
 have hv:=hc.ev x
 rw[hx]at hv
 simp only[VR]at hv
 obtain⟨us,hu,ZC⟩:=hv
 obtain⟨u,hui,hvu⟩:=ZC.get hi
 exact aS (FM ho hu hui) (hn _ _ _ _ _ M ν h (.refl hc.mem) hvu)
theorem Core.evs(hc:Core c σ a.tmps w M ν): ∀xs:List Operand,jk w M σ.H ν (xs.map σ.ρ) (xs.map a.eval)
 |[]=>by simp[jk]
 |x::xs=>by simp only[bZ,jk];exact⟨hc.ev x,hc.evs xs⟩
theorem xa: ∀{qo:List bk} {vs:List Value} {H:Nat→Option aW} {M:Nat→Prop} {K:List bk→List Nat→ig→Option α},Mem c H w M ν→jk w M H ν qo vs→wV H qo K=some r→
  ∃cs rd ups M',K cs rd ups=some r∧Tr c H w M ν (cj H ups) w M' ν∧jk w M' (cj H ups) ν cs vs
 |[],vs,H,M,K,hm,hv,h=>⟨[],[],[],M,h,.refl hm,hv⟩
 |x::xs,[],H,M,K,hm,hv,h=>by simp[jk]at hv
 |x::xs,v::vs,H,M,K,hm,hv,h=>by
  simp only[jk]at hv
  unfold wV at h
  split at h
  ·rename_i id
   split at h
   ·rename_i τ z hid
    obtain⟨M1,b,ht,hb,dU,hM,jB,oO,kd⟩:=Tr.fix hm hid
    obtain⟨cs,rd,ups,M2,hK,RS,ZD⟩:=xa ht.mem (jk.bG ht.bG ht.goes hv.2) h
    refine⟨_,_,_,M2,hK,ht.trans RS,?_⟩
    have h1:VR w M1 (bc H id (some .gone)) ν (.rn τ z) v:=by
     have MJ:=hv.1
     simp only[VR]at MJ ⊢
     obtain⟨e,he,jI⟩:=MJ
     rw[hid]at he;cases he
     simp only[AR]at jI
     obtain⟨_,b',dj,MJ⟩:=jI
     rw[hb]at dj;cases dj
     exact⟨b,0,MJ,dU,hM,jB,oO,kd⟩
    simp only[jk]
    exact⟨VR.bG RS.bG RS.goes h1,ZD⟩
   ·cases h
  ·obtain⟨cs,rd,ups,M2,hK,RS,ZD⟩:=xa hm hv.2 h
   refine⟨_,_,_,M2,hK,RS,?_⟩
   simp only[jk]
   exact⟨VR.bG RS.bG RS.goes hv.1,ZD⟩
theorem MK(hc:Core c σ a.tmps w M ν){f:FuncId}{first caps:Array Operand}(ho:o.op= .makeFunc (.func f) first caps){K:fV α}
  (h:cond first.isEmpty (wV σ.H (caps.toList.map σ.ρ) λcs rd ups=>K (.Mr f cs) rd ups) none=some r) (hn:eW c σ a o w M ν K r next):o.wp P a w next Q:=by
 obtain⟨hf,h⟩:=bN h
 obtain⟨cs,rd,ups,M',hK,ht,hv⟩:=xa hc.mem (hc.evs _) h
 refine aS (DZ ho (by simpa using hf)) (hn _ _ _ _ _ M' ν hK ht ?_)
 simp only[VR]
 exact⟨caps.toList.map a.eval,by congr 1;apply gb;simp,hv⟩
theorem Qm(hE:EnvTy P E)(hc:Core c σ a.tmps w M ν){s d:TypeId}{x:Operand}(ho:o.op= .convert s d x){K:fV α}{τ:Ty}{k:IntKind}(hs:E.ty s=some τ)(hd:E.ty d=some (.int k))
  (h:wg (σ.ρ x) (λ_ n=>K (.val (.int k) (W k n)) [] [])=some r) (hn:eW c σ a o w M ν K r next):o.wp P a w next Q:=by
 obtain⟨k',n,hx,h⟩:=nu h
 have hv:=hc.ev x
 rw[hx]at hv
 refine aS (FN ho (hE.ty s τ hs).isSome (hE.ty d _ hd).int hv.int) (hn _ _ _ _ _ M ν h (.refl hc.mem) ?_)
 rw[DW];exact .mkInt k _
end VM
end
