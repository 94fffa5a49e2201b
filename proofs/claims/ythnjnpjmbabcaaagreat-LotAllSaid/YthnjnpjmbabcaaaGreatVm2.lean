/- A part of the proof of LotAll of layer 23: a machine that reads a function of the program as an equation between values. -/
import Derived.Test.YthnjnpjmbabcaaaGreatVm1
import Derived.Great.BuildSlice
import Derived.Laws.Tables
set_option linter.all false
open List renaming length→ℓ, getD→γ
section
namespace VM
open Go
theorem fB{α:Type}{r:α}: ∀{τ:Ty} {x:τ.den} {n:Nat} {m:(υ:Ty)→υ.den→(υ.den→Option α)→Option α} {k:τ.den→Option α},c8 τ x n m k=some r→
  ∃υ y o k',ui τ x n υ y o∧m υ y k'=some r∧ ∀z r',k' z=some r'→ ∃x',k x'=some r'∧ui τ x' n υ z o∧
   ∀(w:World) (M:Nat→Prop) cs cs',Rd w M τ cs x→Rd w M υ cs' z→Rd w M τ (ca cs o cs') x'
 | .pair a b,x,0,m,k,h=>by
  refine⟨a,x.1,0,_,.here x,h,λz r' hz=>⟨(z,x.2),hz,.here (a:=a) (b:=b) (z,x.2),λw M cs cs' hr mK=> ?_⟩⟩
  simp only[Rd]at hr ⊢
  obtain⟨c1,c2,rfl,h1,h2⟩:=hr
  refine⟨cs',c2,?_,mK,h2⟩
  rw[sn (by rw[mK.length,h1.length];omega)]
  congr 1
  unfold ca
  rw[c7,mK.length,←h1.length];simp
 | .pair a b,x,n+1,m,k,h=>by
  obtain⟨υ,y,o,k',hf,hm,hk⟩:=fB (τ:=b) (x:=x.2) (n:=n) (m:=m) (k:=λz=>k (x.1,z)) h
  refine⟨υ,y,_,k',.there x hf,hm,λz r' hz=> ?_⟩
  obtain⟨x',mu,qt,fg⟩:=hk z r' hz
  refine⟨(x.1,x'),mu,.there (a:=a) (b:=b) (x.1,x') qt,λw M cs cs' hr mK=> ?_⟩
  simp only[Rd]at hr ⊢
  obtain⟨c1,c2,rfl,h1,h2⟩:=hr
  refine⟨c1,_,?_,h1,fg w M c2 cs' h2 mK⟩
  rw[←h1.length,pV]
 | .int _,_,_,_,_,h| .bool,_,_,_,_,h| .str,_,_,_,_,h| .slice _,_,_,_,_,h| .unit,_,_,_,_,h| .arr _ _,_,_,_,_,h=>by simp[c8]at h
def jT(w:World)(M:Nat→Prop)(e:Ty)(cs:List Value)(l:List e.den):Prop:=
 ∀i (h:i<l.length),Rd w M e ((cs.drop (i*e.size)).take e.size) l[i]
theorem cc{i n s:Nat}(h:i<n):i*s+s≤n*s:=by
 have:(i+1)*s≤n*s:=eB _ h
 rw[cr,fi]at this;exact this
theorem jT.set{w:World}{M:Nat→Prop}{e:Ty}{cs:List Value}{l:List e.den}(h:jT w M e cs l)(hl:l.length*e.size≤cs.length){i:Nat}(hi:i<l.length){cs':List Value}{y:e.den}(hr:Rd w M e cs' y):
  jT w M e (ca cs (i*e.size) cs') (l.set i y):=by
 have hlen:=hr.length
 intro j hj
 rw[aT]at hj
 have h1:=cc (s:=e.size) hi
 have h2:=cc (s:=e.size) hj
 by_cases jC:j=i
 ·subst jC
  have:=OP (a:=cs) (o:=j*e.size) (new:=cs') ω
  rw[hlen]at this
  rw[this,List.getElem_set_self];exact hr
 ·rw[vQ (by
   rcases Nat.lt_or_gt_of_ne jC with c6|c6
   ·have:=cc (s:=e.size) c6;left;omega
   ·have:=cc (s:=e.size) c6;right;omega) ω,List.getElem_set_ne (cP jC)]
  exact h j hj
theorem jT.append{w:World}{M:Nat→Prop}{e:Ty}{c1 c2:List Value}{l1 l2:List e.den}(h1:jT w M e c1 l1)(hl:c1.length=l1.length*e.size)(h2:jT w M e c2 l2):jT w M e (c1++c2) (l1++l2):=by
 intro i hi
 by_cases c6:i<l1.length
 ·have:=cc (s:=e.size) c6
  rw[rz ω,ry (by rw[dn];omega),rD c6]
  exact h1 i c6
 ·rw[aO]at hi
  obtain⟨k,rfl⟩: ∃k,i=l1.length+k:=⟨i-l1.length,ω⟩
  rw[cr,←hl,←eC,jj rfl,wv ω]
  simp only[rF]
  exact h2 k ω
theorem jT.take{w:World}{M:Nat→Prop}{e:Ty}{cs:List Value}{l:List e.den}(h:jT w M e cs l){n:Nat}(hn:l.length*e.size≤n):jT w M e (cs.take n) l:=by
 intro i hi
 have:=cc (s:=e.size) hi
 rw[kQ,kR,du ω]
 exact h i hi
theorem jT.more{w:World}{M:Nat→Prop}{e:Ty}{cs cs':List Value}{l:List e.den}(h:jT w M e cs l)(hl:l.length*e.size≤cs.length):jT w M e (cs++cs') l:=by
 intro i hi
 have:=cc (s:=e.size) hi
 rw[rz ω,ry (by rw[dn];omega)]
 exact h i hi
theorem jT.aV{w w':World}{M M':Nat→Prop}(k:cm w M w' M'){e:Ty}{cs:List Value}{l:List e.den}(h:jT w M e cs l):jT w' M' e cs l:=λi hi=>(h i hi).aV k
theorem Rd.arr{w:World}{M:Nat→Prop}{n:Nat}{e:Ty}{cs:List Value}{x:(Ty.arr n e).den}:Rd w M (.arr n e) cs x↔ℓ x=n∧cs.length=n*e.size∧jT w M e cs x:=by
 constructor
 ·intro h
  have hl:=h.length
  have h':=h
  simp only[Rd]at h'
  refine⟨h'.1,hl,λi hi=> ?_⟩
  have:=h.idx (i:=i) ω
  rw[fV x i e.zero hi]at this
  exact this
 ·rintro⟨hn,hl,hr⟩
  simp only[Rd]
  refine⟨hn,(List.range n).map λi=>(cs.drop (i*e.size)).take e.size,by simp,?_,λi hi mj=> ?_⟩
  ·
   have key: ∀m (l:List Value),l.length=m*e.size→l=((List.range m).map λi=>(l.drop (i*e.size)).take e.size).flatten:=by
    intro m
    induction m with
    |zero=>intro l hl;simpa using hl
    |succ m ih=>
     intro l hl
     have h1:(l.take (m*e.size)).length=m*e.size:=by rw[a7,hl,cr];omega
     have h2:=ih (l.take (m*e.size)) h1
     rw[wM,dv,List.flatten_append]
     have h3:((List.range m).map λi=>(l.drop (i*e.size)).take e.size)=(List.range m).map λi=>((l.take (m*e.size)).drop (i*e.size)).take e.size:=by
      apply gJ
      intro i hi
      have:=cc (s:=e.size) (o3.1 hi)
      rw[kQ,kR,du ω]
     rw[h3,←h2]
     simp only[bQ,fh,rR,List.flatten_nil,cy]
     rw[dI (l:=l.drop (m*e.size)) (by rw[dn,hl,cr];omega),ik]
   exact key n cs hl
  ·simp only[wH,rQ]
   exact hr i hi
theorem jD{α:Type}{r:α}{υ:Ty}{y:υ.den}: ∀{p:List Step} {τ:Ty} {x:τ.den} {k:τ.den→Option α},oL υ y p τ x k=some r→
  ∃z,k z=some r∧yP p τ=υ∧(qu p τ→bb p τ+υ.size≤τ.size)∧ ∀(w:World) (M:Nat→Prop) cs cs',qu p τ→Rd w M τ cs x→Rd w M υ cs' y→Rd w M τ (ca cs (bb p τ) cs') z
 |[],τ,x,k,h=>by
  obtain⟨e,h⟩:=aE (h:bc υ τ y k=some r)
  subst e
  refine⟨y,h,rfl,λ_=>by simp[bb],λw M cs cs' _ hr mK=> ?_⟩
  unfold ca
  rw[show bb [] υ=0 from rfl,c7,mK.length,←hr.length]
  simpa using mK
 | .dS n::p,τ,x,k,h=>by
  obtain⟨υ',y',o,k',hf,hm,hk⟩:=fB (h:c8 τ x n _ k=some r)
  obtain⟨z',DS,ht,yH,fg⟩:=jD (p:=p) (τ:=υ') (x:=y') (k:=k') hm
  obtain⟨x',mu,qt,F4⟩:=hk z' r DS
  obtain⟨h1,h2⟩:=hf.eq
  subst h1 h2
  refine⟨x',mu,ht,λhi=>by have:=hf.bound;have:=yH hi;simp only[bb];omega,λw M cs cs' hi hr mK=> ?_⟩
  have yH:=yH hi
  have h3:=fg w M _ cs' hi (hf.rd hr) mK
  have h4:=F4 w M cs _ hr h3
  have hb:=hf.bound
  have Hw:=hr.length
  have Z4:=mK.length
  have KB:=h3.length
  have jl:bb p (lN τ n)+cs'.length≤((cs.drop (de τ n)).take (lN τ n).size).length:=by
   rw[a7,dn];omega
  have:ca cs (de τ n) (ca ((cs.drop (de τ n)).take (lN τ n).size) (bb p (lN τ n)) cs')=ca cs (de τ n+bb p (lN τ n)) cs':=by
   have e1:cs=cs.take (de τ n)++(((cs.drop (de τ n)).take (lN τ n).size)++cs.drop (de τ n+(lN τ n).size)):=by
    rw[←eC,ik,ik]
   have c6:(cs.take (de τ n)).length=de τ n:=by rw[a7];omega
   conv=>rhs;rw[e1]
   rw[show de τ n+bb p (lN τ n)=(cs.take (de τ n)).length+bb p (lN τ n)from by rw[c6],pV,sn jl]
   generalize ca ((cs.drop (de τ n)).take (lN τ n).size) (bb p (lN τ n)) cs'=m at KB ⊢
   unfold ca
   rw[KB,bs]
  simp only[bb]
  rw[←this]
  exact h4
 | .idx i::p,τ,x,k,h=>by
  cases τ with
  |arr n e=>
   obtain⟨z',DS,ht,yH,fg⟩:=jD (p:=p) (τ:=e) (x:=γ x i e.zero) (k:=λz=>k (List.set x i z)) h
   refine⟨_,DS,ht,λhi=>by
    obtain⟨⟨n',e',he,jl⟩,mj⟩:=hi
    cases he
    have:=yH mj
    have hm:=cc (s:=e.size) jl
    simp only[bb,ON,Ty.size];omega,λw M cs cs' hi hr mK=> ?_⟩
   obtain⟨⟨n',e',he,jl⟩,mj⟩:=hi
   cases he
   have h3:=fg w M _ cs' mj (hr.idx jl) mK
   obtain⟨hn,Hw,HW⟩:=Rd.arr.1 hr
   have hm:=cc (s:=e.size) jl
   have h4:=HW.set (by rw[Hw,hn];exact aH _) (i:=i) ω h3
   have Z4:=mK.length
   have KB:=h3.length
   have Z5:((cs.drop (i*e.size)).take e.size).length=e.size:=by rw[a7,dn];omega
   have yH:=yH mj
   have Xb:bb p e+cs'.length≤((cs.drop (i*e.size)).take e.size).length:=ω
   have:ca cs (i*e.size) (ca ((cs.drop (i*e.size)).take e.size) (bb p e) cs')=ca cs (i*e.size+bb p e) cs':=by
    have e1:cs=cs.take (i*e.size)++(((cs.drop (i*e.size)).take e.size)++cs.drop (i*e.size+e.size)):=by
     rw[←eC,ik,ik]
    have c6:(cs.take (i*e.size)).length=i*e.size:=by rw[a7];omega
    conv=>rhs;rw[e1]
    rw[show i*e.size+bb p e=(cs.take (i*e.size)).length+bb p e from by rw[c6],pV,sn Xb]
    generalize ca ((cs.drop (i*e.size)).take e.size) (bb p e) cs'=m at KB ⊢
    unfold ca
    rw[KB,bs]
   simp only[bb,ON]
   rw[←this]
   refine Rd.arr.2 ⟨by rw[aT];exact hn,?_,h4⟩
   rw[bV (by rw[KB];omega)];exact Hw
  |_=>simp[oL,vL]at h
theorem Rd.SY{w:World}{M:Nat→Prop}{τ υ:Ty}{cs:List Value}{x:τ.den}(e:τ=υ)(h:Rd w M τ cs x):Rd w M υ cs (e▸x):=by subst e;exact h
theorem w6{α:Type}{r:α}{e:Ty}{l:List e.den}: ∀{τ:Ty} {n:Nat} {z:τ.den} {k:τ.den→Option α},c8 τ z n (fun υ' _ k'=>bc (.slice e) υ' l k') k=some r→
  ∃x,k x=some r∧c8 τ z n (fun υ' _ k'=>bc (.slice e) υ' l k') some=some x∧nC τ x n (fun υ y=>bc υ (.slice e) y some)=some l∧ ∀l':List e.den,∃z0,
   (∀(β:Type) (k':τ.den→Option β),c8 τ x n (fun υ' _ k'=>bc (.slice e) υ' l' k') k'=k' z0)∧ ∀(β:Type) (k':τ.den→Option β),c8 τ z n (fun υ' _ k'=>bc (.slice e) υ' l' k') k'=k' z0
 | .pair a b,0,z,k,h=>by
  have h1:bc (.slice e) a l (λw=>k (w,z.2))=some r:=h
  obtain⟨e1,h2⟩:=aE h1
  clear h1 h
  subst e1
  exact⟨_,h2,by simp[c8,bc],by simp[nC,bc],λl'=>⟨(l',z.2),λβ k'=>by simp[c8,bc],λβ k'=>by simp[c8,bc]⟩⟩
 | .pair a b,n+1,z,k,h=>by
  obtain⟨x,h1,h0,h2,h3⟩:=w6 (τ:=b) (n:=n) (z:=z.2) (k:=λw=>k (z.1,w)) h
  refine⟨(z.1,x),h1,?_,h2,λl'=> ?_⟩
  ·obtain⟨z0,h4,h5⟩:=h3 l
   have h6:=h5 _ some
   rw[h0]at h6
   cases h6
   exact h5 _ λw=>some (z.1,w)
  obtain⟨z0,h4,h5⟩:=h3 l'
  exact⟨(z.1,z0),λβ k'=>h4 β λw=>k' (z.1,w),λβ k'=>h5 β λw=>k' (z.1,w)⟩
 | .int _,_,_,_,h| .bool,_,_,_,h| .str,_,_,_,h| .slice _,_,_,_,h| .unit,_,_,_,h| .arr _ _,_,_,_,h=>by simp[c8]at h
end VM
end
section
namespace VM
open Go
variable{P:Program}{E:Env}{o:Oper}{a:Act}{w:World}{M:Nat→Prop}{ν:Nat→Value}{σ:St}{c:Ctx}{α:Type}{r:α}{next:Act→World→Prop}{Q:Exit→Act→World→Prop}
theorem av{v:Value}{w':World}(h:(execOp a.eval o).run P w= .ok (.value v) w')(hn:next (a.put o.dst v) w'):o.wp P a w next Q:=by
 unfold Oper.wp Oper.upon;rw[h];exact hn
theorem gU{w':World}(h:(execOp a.eval o).run P w= .ok .skip w')(hn:next (a.put o.dst undef) w'):o.wp P a w next Q:=by
 unfold Oper.wp Oper.upon;rw[h];exact hn
def cW(c:Ctx)(σ:St)(a:Act)(o:Oper)(w:World)(M:Nat→Prop)(ν:Nat→Value)(K:dp α)(r:α)(next:Act→World→Prop):Prop:=
 ∀v rd ups v' w' M' ν',K v rd ups=some r→Tr c σ.H w M ν (a8 σ.H ups) w' M' ν'→VR w' M' (a8 σ.H ups) ν' v v'→next (a.put o.dst v') w'
theorem Core.ev(h:Core c σ a.tmps w M ν)(x:Operand):VR w M σ.H ν (σ.ρ x) (a.eval x):=h.op a.defers x
theorem iy{x:aF}{k:IntKind→Int→Option α}(h:oM x k=some r): ∃(i:IntKind) (n:Int),x= .val (.int i) n∧k i n=some r:=by
 unfold oM at h
 split at h
 ·exact⟨_,_,rfl,h⟩
 ·cases h
theorem VR.int{H:Nat→Option az}{k:IntKind}{n:Int}{v:Value}(h:VR w M H ν (.val (.int k) n) v):v= .int k n:=by
 simp only[VR,V,Ty.isAgg,dJ,cU,Rd,cM,cT]at h;exact h
theorem VR.bool{H:Nat→Option az}{b:Bool}{v:Value}(h:VR w M H ν (.val .bool b) v):v= .bool b:=by
 simp only[VR,V,Ty.isAgg,dJ,cU,Rd,cM,cT]at h;exact h
theorem VR.str{H:Nat→Option az}{b:ByteArray}{v:Value}(h:VR w M H ν (.val .str b) v):v= .string b:=by
 simp only[VR,V,Ty.isAgg,dJ,cU,Rd,cM,cT]at h;exact h
theorem VR.mkInt{H:Nat→Option az}(k:IntKind)(n:Int):VR w M H ν (.val (.int k) n) (.int k n):=by simp[VR,V,Ty.isAgg,Rd]
theorem VR.nJ{H:Nat→Option az}(b:Bool):VR w M H ν (.val .bool b) (.bool b):=by simp[VR,V,Ty.isAgg,Rd]
theorem VR.mkStr{H:Nat→Option az}(b:ByteArray):VR w M H ν (.val .str b) (.string b):=by simp[VR,V,Ty.isAgg,Rd]
theorem EY(hc:Core c σ a.tmps w M ν){x:Operand}(ho:o.op= .move x∨o.op= .assign x){K:dp α}(h:K (σ.ρ x) [] []=some r)(hn:cW c σ a o w M ν K r next):o.wp P a w next Q:=by
 have hr:(execOp a.eval o).run P w= .ok (.value (a.eval x)) w:=by
  rcases ho with ho|ho
  ·simp[execOp,ho]
  ·simp[execOp,ho]
 exact av hr (hn _ _ _ _ _ _ _ h (.refl hc.mem) (hc.ev x))
theorem KX(hc:Core c σ a.tmps w M ν){x y z:Operand}(ho:o.op= .pick x y z){K:dp α}{t:Bool}(hx:σ.ρ x= .val .bool t)(h:cond t (K (σ.ρ y) [] []) (K (σ.ρ z) [] [])=some r)
  (hn:cW c σ a o w M ν K r next):o.wp P a w next Q:=by
 have hv:=hc.ev x
 rw[hx]at hv
 refine av (BL ho hv.bool) ?_
 cases t
 ·exact hn _ _ _ _ _ _ _ h (.refl hc.mem) (hc.ev z)
 ·exact hn _ _ _ _ _ _ _ h (.refl hc.mem) (hc.ev y)
theorem fC{H:Nat→Option az}{id:Nat}{e:az}{K:Option α}(h:ku H id e K=some r):H id=none∧K=some r:=by
 unfold ku at h
 split at h
 ·rename_i h';exact⟨h',h⟩
 ·cases h
theorem VR.Nt{H:Nat→Option az}{id:Nat}{τ:Ty}{x:τ.den}{b:Nat}(hid:H id=some (.obj τ x))(hν:ν id= .pointer (some ⟨b,0,none⟩)):VR w M H ν (.dQ id []) (.pointer (some ⟨b,0,none⟩)):=by
 simp only[VR]
 exact⟨_,hid,trivial,b,hν,rfl⟩
theorem VR.HX{H:Nat→Option az}{id:Nat}{τ:Ty}{x:τ.den}{q:List Step}{j b:Nat}(hid:H id=some (.dj τ x q j))(hν:ν id= .pointer (some ⟨b,0,none⟩)):VR w M H ν (.dQ id []) (.pointer (some ⟨b,0,none⟩)):=by
 simp only[VR]
 exact⟨_,hid,trivial,b,hν,rfl⟩
theorem cX(τ:Ty):(aK τ τ.aW).cells.toList=τ.aW:=yO (Rd.zero default (λ_=>False) τ)
theorem BM: ∀{τ:Ty} {n:Nat} {a:Ty},qm τ n=some a→ ∃l m,τ.aW=l++(a.aW++m)∧l.length=de τ n:=by
 intro τ
 induction τ with
 |pair a b _ HV=>
  intro n c h
  cases n with
  |zero=>cases h;exact⟨[],b.aW,rfl,rfl⟩
  |succ n=>
   obtain⟨l,m,h1,h2⟩:=HV (n:=n) (a:=c) h
   refine⟨a.aW++l,m,by simp only[Ty.aW];rw[h1,bs],?_⟩
   rw[aO,h2,(Rd.zero default (λ_=>False) a).length];rfl
 |_=>intro n c h;simp[qm]at h
theorem su: ∀{p:List Step} {τ υ:Ty},cQ p τ υ=true→ ∃l m,τ.aW=l++(υ.aW++m)∧l.length=bb p τ
 |[],τ,υ,h=>by
  have h:=bO h
  subst h
  exact⟨[],[],by simp,rfl⟩
 | .dS n::p,τ,υ,h=>by
  unfold cQ at h
  split at h
  ·rename_i a ha
   obtain⟨l,m,h1,h2⟩:=BM ha
   obtain⟨l',m',h3,h4⟩:=su h
   obtain⟨_,_,hf⟩:=fv ha τ.zero
   have:=hf.eq.1
   subst this
   refine⟨l++l',m'++m,by rw[h1,h3];simp,?_⟩
   rw[aO,h2,h4];rfl
  ·cases h
 | .idx _::_,_,_,h=>by simp[cQ]at h
theorem tv{p:List Step}{τ e:Ty}(h:cQ p τ (.slice e)=true):τ.aW[bb p τ]? =some (.slice none 0 0):=by
 obtain⟨l,m,h1,h2⟩:=su h
 rw[h1,kq ω,h2,wP];rfl
theorem aP{b:Bool}{K:Option α}(h:cond b K none=some r):b=true∧K=some r:=by
 cases b
 ·cases h
 ·exact⟨rfl,h⟩
theorem Ad{τ:Ty}{q:List Step}{e:Ty}(h:SR E τ=some (q,e)):cQ q τ (.slice e)=true:=by
 unfold SR at h
 split at h
 ·rename_i υ q' e' _ _
  cases hd:decide (υ=τ)<;>rw[hd]at h
  ·cases h
  ·simp only[aa]at h
   cases hp:cQ q' τ (.slice e')<;>rw[hp]at h
   ·cases h
   ·cases h;exact hp
 ·cases h
theorem k6{τ:Ty}{id:Nat}{q:List Step}{e:Ty}(h:yN E τ id=some (q,e)):cQ q τ (.slice e)=true:=by
 unfold yN at h
 split at h
 ·exact Ad (aP h).2
 ·cases h
theorem w7{H:Nat→Option az}{id:Nat}{τ:Ty}{x:τ.den}{q:List Step}{e:Ty}{K:dp α}(h:vk H id τ x q e K=some r):H id=none∧H (id+1)=none∧K (.dQ id []) [id,id+1] [(id,some (.dj τ x q (id+1))),(id+1,some (.own e []))]=some r:=by
 unfold vk at h
 obtain⟨h1,h⟩:=fC h
 obtain⟨h2,h⟩:=fC h
 exact⟨h1,h2,h⟩
theorem F6{H:Nat→Option az}{i j:Nat}{u v:Option az}(h:i≠j):aC (aC H i u) j v=aC (aC H j v) i u:=by
 funext k
 by_cases hi:k=i
 ·subst hi;rw[aj _ _ h,ag,ag]
 ·by_cases hj:k=j
  ·subst hj;rw[ag,aj _ _ hi,ag]
  ·rw[aj _ _ hj,aj _ _ hi,aj _ _ hi,aj _ _ hj]
theorem qT{H:Nat→Option az}{i:Nat}{u v:Option az}:aC (aC H i u) i v=aC H i v:=by
 funext k
 by_cases hi:k=i
 ·subst hi;rw[ag,ag]
 ·rw[aj _ _ hi,aj _ _ hi,aj _ _ hi]
theorem Tr.HY{H:Nat→Option az}(h:Mem c H w M ν){id k:Nat}(hk:H k=none){τ:Ty}{x:τ.den}(hid:H id=some (.obj τ x)){b:Nat}{cs:Array Value}{t:TypeId}(hb:ν id= .pointer (some ⟨b,0,none⟩))(hg:w.heap[b]? =some (.cells cs t (0,0)))
  {q:List Step} {e:Ty} (hq:cQ q τ (.slice e)=true) {ad:Option Addr} (hz:cs.toList[bb q τ]? =some (.slice ad 0 0)):
  Tr c H w M ν (a8 H [(id,some (.dj τ x q k)),(k,some (.own e []))]) w M (updν ν k (.slice ad 0 0)):=by
 have eX:k≠id:=λe=>by rw[e,hid]at hk;cases hk
 have h2:=Tr.nothing h hk e ad
 have Z6:aC H k (some (.own e [])) id=some (.obj τ x):=by rw[aj _ _ (cP eX)];exact hid
 have hν:updν ν k (.slice ad 0 0) id= .pointer (some ⟨b,0,none⟩):=by unfold updν;rw[af (cP eX)];exact hb
 have hν1:updν ν k (.slice ad 0 0) k= .slice ad 0 0:=by simp[updν]
 have he:=h2.mem.dH id _ Z6
 simp only[ER]at he
 obtain⟨b',cs',t',bT,OS,hM,fg⟩:=he
 rw[hν]at bT;cases bT
 rw[hg]at OS;cases OS
 have h3:=Tr.SW h2.mem Z6 trivial (e':= .dj τ x q k) trivial rfl (λ_ _=>by simp) (by
   rw[hν];simp only[ER]
   exact⟨_,cs,t,cs.toList,.slice ad 0 0,rfl,hg,hM,fg,(pn hz).symm,rfl,e,hq⟩)
  (fun τ' x' p' j' hl=>by
   cases hl
   refine⟨by rw[ag];simp,_,hν,?_⟩
   rw[hν1,cell_of hg,←dm];exact hz)
 rw[F6 (i:=k) (j:=id) eX]at h3
 exact h2.trans h3
theorem Tr.vk{H:Nat→Option az}(h:Mem c H w M ν){id:Nat}(hid:H id=none)(jV:H (id+1)=none)(t:TypeId){τ:Ty}{cs:Array Value}{x:τ.den}(hr:Rd w M τ cs.toList x){q:List Step}{e:Ty}(hq:cQ q τ (.slice e)=true){ad:Option Addr}
  (hz:cs.toList[bb q τ]? =some (.slice ad 0 0)):
  ∃M' ν',Tr c H w M ν (a8 H [(id,some (.dj τ x q (id+1))),(id+1,some (.own e []))]) (w.alloc (.cells cs t)) M' ν'∧ν' id= .pointer (some ⟨w.heap.size,0,none⟩):=by
 have h1:=Tr.var h hid t hr
 have h2:=Tr.HY h1.mem (id:=id) (k:=id+1) (by rw[aj _ _ ω];exact jV) (ag _ _ _) (by simp[updν]) (so w _) hq hz
 have e1:a8 (aC H id (some (.obj τ x))) [(id,some (.dj τ x q (id+1))),(id+1,some (.own e []))]=a8 H [(id,some (.dj τ x q (id+1))),(id+1,some (.own e []))]:=by
  show aC (aC (aC H id _) id _) (id+1) _=aC (aC H id _) (id+1) _
  rw[qT]
 rw[e1]at h2
 exact⟨_,_,h1.trans h2,by simp[updν]⟩
theorem HZ(hE:EnvTy P E)(hc:Core c σ a.tmps w M ν){t:TypeId}(ho:o.op= .alloc t){K:dp α}{τ:Ty}(ht:E.ty t=some τ){id:Nat}
  (h:(match yN E τ id with
   |some (q,e)=>vk σ.H id τ τ.zero q e K
   |none=>ku σ.H id (.obj τ τ.zero) (K (.dQ id []) [id] [(id,some (.obj τ τ.zero))]))=some r) (hn:cW c σ a o w M ν K r next):o.wp P a w next Q:=by
 obtain⟨i,hi,hs,hz,_⟩:=(hE.ty t τ ht).base
 have hr:Rd w M τ (aK τ τ.aW).cells.toList τ.zero:=by rw[cX];exact Rd.zero w M τ
 split at h
 ·rename_i q e k5
  obtain⟨hid,jV,h⟩:=w7 h
  obtain⟨M',ν',df,hν⟩:=Tr.vk hc.mem hid jV t hr (k6 k5) (by rw[cX];exact tv (k6 k5))
  refine av (sr ho hi hz w) (hn _ _ _ _ _ M' ν' h df ?_)
  exact VR.HX (by show aC _ (id+1) _ id=_;rw[aj _ _ ω,ag]) hν
 ·obtain⟨hid,h⟩:=fC h
  refine av (sr ho hi hz w) (hn _ _ _ _ _ _ _ h (Tr.var hc.mem hid t hr) (VR.Nt (ag _ _ _) (by simp[updν])))
theorem EZ(hE:EnvTy P E)(hc:Core c σ a.tmps w M ν){t:TypeId}{x:Operand}(ho:o.op= .box t x){K:dp α}{τ:Ty}{id:Nat}
  (h:gS true (σ.ρ x) σ.H τ (λy rd ups=>ku σ.H id (.obj τ y) (K (.dQ id []) (id::rd) (ups++[(id,some (.obj τ y))])))=some r) (hn:cW c σ a o w M ν K r next):o.wp P a w next Q:=by
 obtain⟨y,rd,ups,M',h,df,hV,hz,_⟩:=fA (.refl _) hc.mem (hc.ev x) h
 obtain⟨hid,h⟩:=fC h
 have OT:a8 σ.H ups id=none:=hz.none hid
 have pv:=df.trans (Tr.var df.mem OT t hV.cells)
 refine av (wY ho w) (hn _ _ _ _ _ (λb=>M' b∨b=w.heap.size) (updν ν id (.pointer (some ⟨w.heap.size,0,none⟩))) h ?_ ?_)
 ·rw[cz];exact pv
 ·rw[cz];exact VR.Nt (ag _ _ _) (by simp[updν])
theorem OU(hE:EnvTy P E)(hc:Core c σ a.tmps w M ν){t:TypeId}{x:Operand}(ho:o.op= .box t x){K:dp α}{τ:Ty}{id:Nat}
  (h:(match yN E τ id,σ.ρ x with
   |some ([.dS m],e),.zZ υ y n=>cond (Nat.beq m n) (bc υ τ y λy=>vk σ.H id τ y [.dS m] e K) (gS true (σ.ρ x) σ.H τ (λy rd ups=>ku σ.H id (.obj τ y) (K (.dQ id []) (id::rd) (ups++[(id,some (.obj τ y))]))))
   |_,_=>gS true (σ.ρ x) σ.H τ (λy rd ups=>ku σ.H id (.obj τ y) (K (.dQ id []) (id::rd) (ups++[(id,some (.obj τ y))]))))=some r) (hn:cW c σ a o w M ν K r next):o.wp P a w next Q:=by
 split at h
 ·rename_i m e υ y n k5 hx
  cases hb:Nat.beq m n
  ·rw[hb]at h
   exact EZ hE hc ho h hn
  ·rw[hb]at h
   have vS:=cJ hb
   subst vS
   simp only[aa]at h
   obtain⟨e1,h⟩:=aE h
   subst e1
   obtain⟨hid,jV,h⟩:=w7 h
   have hv:=hc.ev x
   rw[hx]at hv
   simp only[VR]at hv
   obtain⟨hV,cs,ad,SZ,hz⟩:=hv
   have mL:(a.eval x).cells.toList=cs.toList:=by rw[SZ];rfl
   obtain⟨M',ν',df,hν⟩:=Tr.vk hc.mem hid jV t hV.cells (k6 k5) (ad:=ad) (by rw[mL];simpa [bb]using hz)
   refine av (wY ho w) (hn _ _ _ _ _ M' ν' h df ?_)
   exact VR.HX (by show aC _ (id+1) _ id=_;rw[aj _ _ ω,ag]) hν
 ·exact EZ hE hc ho h hn
theorem mv{i:Int}{n:Nat}(h:bB i n=true):0≤i∧i<(n:Int):=by rw[HN]at h;simpa using h
theorem g5{b:Bool}{K:Option α}(h:cond b none K=some r):b=false∧K=some r:=by
 cases b
 ·exact⟨rfl,h⟩
 ·cases h
theorem ur(hm:Mem c σ.H w M ν){x:aF}{u:Value}(hv:VR w M σ.H ν x u){K:(υ:Ty)→υ.den→List Nat→Option α}(h:gb x σ.H K=some r):
  ∃υ y rd,K υ y rd=some r∧ ∃b off cs,u= .pointer (some ⟨b,off,none⟩)∧At w b off cs∧Rd w M υ cs y:=by
 unfold gb at h
 split at h
 ·simp only[VR]at hv
  obtain⟨b,off,rfl,_,_,cs,ha,hr⟩:=hv
  exact⟨_,_,_,h,b,off,cs,rfl,ha,hr⟩
 ·rename_i id p
  simp only[VR]at hv
  obtain⟨e,he,eQ⟩:=hv
  have ff:=hm.dH id e he
  rw[he]at h
  cases e with
  |obj τ x=>
   obtain⟨υ,y,o',hp,hK⟩:=fu h
   simp only[AR]at eQ
   obtain⟨hi,b,hb,rfl⟩:=eQ
   simp only[ER]at ff
   obtain⟨b',cs,t,bT,hg,_,hr⟩:=ff
   rw[hb]at bT;cases bT
   have:=hp.eq.2
   subst this
   exact⟨υ,y,_,hK,b,_,_,rfl,At.of_block hg _ _,hp.rd hi hr⟩
  |own e l=>
   simp only[AR]at eQ
   obtain⟨i,q,rfl,vo,hi,b,n,cp,hb,rfl⟩:=eQ
   obtain⟨υ,y,o',hp,hK⟩:=fu h
   simp only[ER]at ff
   rcases ff with⟨rfl,_⟩|⟨b',cs,t,cap,bT,hg,_,F9,hl,vR,hs,hr⟩
   ·simp at vo
   ·rw[hb]at bT;cases bT
    have:=hp.eq.2
    subst this
    have h1:=hr i vo
    rw[←fV l i e.zero vo]at h1
    have h2:=hp.rd hi h1
    have h3:=hp.bound hi
    rw[kQ,eC,kR,du ω]at h2
    exact⟨υ,y,_,hK,b,_,_,rfl,At.of_block hg _ _,h2⟩
  |jk e l=>
   simp only[AR]at eQ
   obtain⟨i,q,rfl,vo,hi,b,n,cp,hb,rfl⟩:=eQ
   obtain⟨υ,y,o',hp,hK⟩:=fu h
   simp only[ER]at ff
   have fg:=ff.1
   simp only[Rd,cM,cT]at fg
   obtain⟨a0,cap,Xc,_,hr⟩:=fg
   obtain⟨b',off,rfl,_,_,cs,lK,S1⟩:=hr i vo
   rw[hb]at Xc;cases Xc
   have:=hp.eq.2
   subst this
   rw[c7]at lK
   have S2:Rd w M e cs (γ l i e.zero):=by rw[fV l i e.zero vo];exact S1
   have h2:=hp.rd hi S2
   have h3:=hp.bound hi
   have Hw:=S2.length
   refine⟨υ,y,_,hK,b,_,_,rfl,?_,h2⟩
   intro j v hj
   rw[gK]at hj
   split at hj
   ·rw[gL]at hj
    have:=lK _ v hj
    rwa [←ju]at this
   ·cases hj
  |dj _ _ _ _=>cases h
  |cV _ _ _=>cases h
  |gone=>cases h
 ·cases h
theorem Mem.linked{H:Nat→Option az}(hm:Mem c H w M ν){id:Nat}{τ:Ty}{x:τ.den}{q:List Step}{j:Nat}(hid:H id=some (.dj τ x q j)):
  ∃b cs t eH e,ν id= .pointer (some ⟨b,0,none⟩)∧w.heap[b]? =some (.cells cs t (0,0))∧M b∧Rd w M τ eH x∧cs.toList=ca eH (bb q τ) [ν j]∧(ν j).oneCell'=true∧cQ q τ (.slice e)=true∧bb q τ<eH.length∧H j≠none:=by
 have ff:=hm.dH id _ hid
 simp only[ER]at ff
 obtain⟨b,cs,t,eH,u,hb,hg,hM,hr,mL,h1,e,hq⟩:=ff
 obtain⟨hj,b',bT,m9⟩:=hm.dj id _ _ _ _ hid
 rw[hb]at bT;cases bT
 obtain⟨y,o,hp⟩:=m7 hq x
 have c6:bb q τ<eH.length:=by
  have:=hp.bound (fW hq).1
  have h2:=hp.eq.2
  have h3:=hr.length
  have:(Ty.slice e).size=1:=rfl
  omega
 have hu:u=ν j:=by
  rw[cell_of hg,←dm,mL,pW c6]at m9
  exact Option.some.inj m9
 subst hu
 exact⟨b,cs,t,eH,e,hb,hg,hM,hr,mL,h1,hq,c6,hj⟩
theorem nK{H:Nat→Option az}(hm:Mem c H w M ν){id:Nat}{τ:Ty}{x:τ.den}{q:List Step}{j:Nat}(hid:H id=some (.dj τ x q j)){k:τ.den→dR→Option α}(h:tj j q τ x H k=some r):
  ∃z ups M',k z ups=some r∧Tr c H w M ν (a8 H ups) w M' ν∧Fz H (a8 H ups)∧((∃e l,H j=some (.jk e l)∧ups=[])∨ ∃e l,H j=some (.own e l)∧ups=[(j,some (.jk e l))])∧ ∃b cs t,ν id= .pointer (some ⟨b,0,none⟩)∧w.heap[b]? =some (.cells cs t (0,0))∧M' b∧Rd w M' τ cs.toList z:=by
 obtain⟨b,cs,t,eH,e0,hb,hg,hM,hr,mL,h1,hq,c6,hj⟩:=hm.linked hid
 have H4:=(fW hq).1
 unfold tj at h
 split at h
 ·rename_i e l sv
  obtain⟨z,hz,pY,yH,k9⟩:=jD h
  obtain⟨M',df,hV,Xd⟩:=Tr.freeze hm sv
  refine⟨z,_,M',hz,df,λi=> ?_,.inr ⟨e,l,sv,rfl⟩,b,cs,t,hb,hg,?_,?_⟩
  ·by_cases hi:i=j
   ·subst hi;exact .inr ⟨e,l,sv,ag _ _ _⟩
   ·exact .inl (aj _ _ hi)
  ·refine(Xd b).2 ⟨hM,λNu=> ?_⟩
   have eX:j≠id:=λe=>by rw[e,hid]at sv;cases sv
   exact hm.qv j id _ _ b eX sv trivial hid trivial Nu (by rw[hb];rfl)
  ·rw[mL]
   exact k9 w M' eH [ν j] H4 (hr.aV df.aV) (V.slice.1 hV)
 ·rename_i e l sv
  obtain⟨z,hz,pY,yH,k9⟩:=jD h
  have ff:=hm.dH j _ sv
  simp only[ER]at ff
  refine⟨z,_,M,hz,.refl hm,.refl H,.inl ⟨e,l,sv,rfl⟩,b,cs,t,hb,hg,hM,?_⟩
  rw[mL]
  exact k9 w M eH [ν j] H4 hr ff.1
 ·cases h
theorem Sb{τ υ:Ty}{t:TypeId}(hE:EnvTy P E)(ht:E.ty t=some τ)(h:cQ ([]:List Step) υ τ=true):υ=τ:=bO h
theorem Rd.OV{e:Ty}{v:Value}{cs:List Value}{l:List e.den}(h:Rd w M (.slice e) cs l): ∃a n cap,cs=[.slice a n cap]:=by
 simp only[Rd]at h
 obtain⟨a,cap,rfl,_⟩:=h
 exact⟨a,_,cap,rfl⟩
theorem qD{ρ:Operand→Value}{t:TypeId}{x:Operand}(ho:o.op= .load t x){τ:Ty}(h:fe P τ t)(ha:τ.isAgg=false){b off:Nat}{v:Value}(hx:ρ x= .pointer (some ⟨b,off,none⟩))(hc:w.cell? ⟨b,off,none⟩=some v):
  (execOp ρ o).run P w= .ok (.value v) w:=by
 have:(loadVar t ⟨b,off,none⟩).run P w= .ok v w:=by
  simp[loadVar,kJ h,ha,load,Sem.run,hc]
 simp[execOp,ho,hx,Instr.loadAt,Instr.sureAddr,this]
theorem BN(hE:EnvTy P E)(hc:Core c σ a.tmps w M ν){t:TypeId}{x:Operand}(ho:o.op= .load t x){K:dp α}{τ:Ty}(ht:E.ty t=some τ)
  (h:gb (σ.ρ x) σ.H (fun υ y rd=>bc υ τ y λz=>K (.val τ z) rd [])=some r) (hn:cW c σ a o w M ν K r next):o.wp P a w next Q:=by
 obtain⟨υ,y,rd,h,b,off,cs,hu,lK,hr⟩:=ur hc.mem (hc.ev x) h
 obtain⟨e,h⟩:=aE h
 subst e
 refine av (pq ho (hE.ty t _ ht) hu lK hr) (hn _ _ _ _ _ _ _ h (.refl hc.mem) ?_)
 simp only[VR]
 exact V.aK hr
theorem E0(hE:EnvTy P E)(hc:Core c σ a.tmps w M ν){t:TypeId}{x:Operand}(ho:o.op= .load t x){K:dp α}{τ:Ty}(ht:E.ty t=some τ)
  (h:m5 τ (σ.ρ x) σ.H K=some r) (hn:cW c σ a o w M ν K r next):o.wp P a w next Q:=by
 unfold m5 at h
 simp only at h
 split at h
 ·rename_i id p hx
  split at h
  ·rename_i υ z q j hid
   have hv:=hc.ev x
   rw[hx]at hv
   simp only[VR]at hv
   obtain⟨e1,sw,eQ⟩:=hv
   rw[hid]at sw;cases sw
   simp only[AR]at eQ
   obtain⟨hi,b,hb,hu⟩:=eQ
   obtain⟨b',cs,te,eH,e0,bT,hg,hM,hr,mL,h1,hq,c6,hj⟩:=hc.mem.linked hid
   rw[hb]at bT;cases bT
   cases hp:yL p q
   ·rw[hp]at h
    cases Aa:qk p q
    ·
     rw[Aa]at h
     simp only[ah]at h
     obtain⟨υ',y,o',qw,h⟩:=fu h
     obtain⟨e2,h⟩:=aE h
     subst e2
     have Nv:=qw.apart hi hq Aa
     have OM:=qw.eq.2
     subst OM
     have yH:=qw.bound hi
     have hlen:=hr.length
     have fg:Rd w M υ' ((cs.toList.drop (bb p υ)).take υ'.size) y:=by
      rw[mL,vQ (by simp only[a6];omega) (by simp only[a6];omega)]
      exact qw.rd hi hr
     refine av (pq ho (hE.ty t _ ht) hu (At.of_block hg _ _) fg) (hn _ _ _ _ _ M ν h (.refl hc.mem) ?_)
     simp only[VR]
     exact V.aK fg
    ·
     rw[Aa]at h
     simp only[ah,aa]at h
     obtain⟨z',ups,M',h,df,_,_,b2,E1,t2,nI,E2,Ae,H5⟩:=nK hc.mem hid h
     rw[hb]at nI;cases nI
     rw[hg]at E2;cases E2
     obtain⟨υ',y,o',qw,h⟩:=fu h
     obtain⟨e2,h⟩:=aE h
     subst e2
     have OM:=qw.eq.2
     subst OM
     have fg:=qw.rd hi H5
     refine av (pq ho (hE.ty t _ ht) hu (At.of_block hg _ _) fg) (hn _ _ _ _ _ M' ν h df ?_)
     simp only[VR]
     exact V.aK fg
   ·
    rw[hp]at h
    have:=qR hp
    subst this
    simp only[aa]at h
    obtain⟨Hy,hK⟩:=aP h
    have hτ:τ= .slice e0:=(fW Hy).2.symm.trans (fW hq).2
    subst hτ
    have m9:w.cell? ⟨b,bb p υ,none⟩=some (ν j):=by rw[cell_of hg,←dm,mL,pW c6]
    refine av (qD ho (hE.ty t _ ht) rfl hu m9) (hn _ _ _ _ _ M ν hK (.refl hc.mem) ?_)
    simp only[VR]
    exact⟨hj,trivial⟩
  ·exact BN hE hc ho ht h hn
 ·exact BN hE hc ho ht h hn
theorem qU{τ:Ty}{n:Nat}(h:nG τ n=true): ∃e,cQ [.dS n] τ (.slice e)=true∧qm τ n=some (.slice e):=by
 unfold nG at h
 split at h
 ·rename_i e he
  exact⟨e,by simp[cQ,he],he⟩
 ·cases h
theorem kK{τ:Ty}{n:Nat}{e:Ty}(h:cQ [.dS n] τ (.slice e)=true):nG τ n=true:=by
 unfold cQ at h
 unfold nG
 split at h
 ·rename_i a ha
  rw[ha]
  rw[show a= .slice e from bO h]
 ·cases h
theorem w8{τ:Ty}{n:Nat}(h:nG τ n=true):τ.isAgg=true:=by
 cases τ<;>first|rfl|(simp[nG,qm]at h)
theorem H6(hE:EnvTy P E)(hc:Core c σ a.tmps w M ν){t:TypeId}{x:Operand}(ho:o.op= .load t x){K:dp α}{τ:Ty}(ht:E.ty t=some τ)
  (h:sj E τ (σ.ρ x) σ.H K=some r) (hn:cW c σ a o w M ν K r next):o.wp P a w next Q:=by
 unfold sj at h
 split at h
 ·rename_i id Ga hx
  split at h
  ·rename_i υ z n j hid
   obtain⟨e,h⟩:=aE h
   subst e
   obtain⟨b,cs,te,eH,e0,hb,hg,hM,hr,mL,h1,hq,c6,hj⟩:=hc.mem.linked hid
   have hv:=hc.ev x
   rw[hx]at hv
   simp only[VR]at hv
   obtain⟨e1,sw,eQ⟩:=hv
   rw[hid]at sw;cases sw
   simp only[AR]at eQ
   obtain⟨hi,b',bT,hu⟩:=eQ
   rw[hb]at bT;cases bT
   have hl:cs.toList.length=υ.size:=by rw[mL,bV (by simp only[a6];omega),hr.length]
   refine av (w3 (P:=P) (cs:=cs.toList) ho (hE.ty t _ ht) (w8 (kK hq)) hu ?_ hl) (hn (.yM υ z n j) _ [] _ _ M ν h (.refl hc.mem) ?_)
   ·have:=At.of_block hg 0 cs.toList.length
    rw[bX,fR]at this
    exact this
   ·simp only[VR]
    exact⟨_,eH,rfl,hr,by simpa [bb]using mL,hj,kK hq⟩
  ·exact E0 hE hc ho ht h λv rd ups v' w' M' ν' h1 h2 h3=>hn v (id::rd) ups v' w' M' ν' h1 h2 h3
 ·exact E0 hE hc ho ht h hn
theorem Fz.own{H H1:Nat→Option az}(h:Fz H H1){i:Nat}{e:Ty}{l:List e.den}(hi:H i=some (.own e l)):H1 i=some (.own e l)∨H1 i=some (.jk e l):=by
 rcases h i with h'|⟨e',l',h1,h2⟩
 ·exact .inl (by rw[h',hi])
 ·rw[hi]at h1;cases h1;exact .inr h2
theorem Gb(hE:EnvTy P E)(hc:Core c σ a.tmps w M ν){t:TypeId}{x y:Operand}(ho:o.op= .store t x y){K:dp α}{τ:Ty}(ht:E.ty t=some τ)
  (h:gT τ (σ.ρ x) (σ.ρ y) σ.H K=some r) (hn:cW c σ a o w M ν K r next):o.wp P a w next Q:=by
 unfold gT at h
 split at h
 ·rename_i id p hx
  obtain⟨z,rd,ups,M',h,df,hV,hz,fg⟩:=fA (.refl _) hc.mem (hc.ev y) h
  have hv:=hc.ev x
  rw[hx]at hv
  have OW:=VR.aV df.aV df.goes hv
  have nL:=hE.ty t τ ht
  have w9:=hV.cells.length
  rw[aJ]at w9
  split at h
  ·rename_i υ x0 hid
   have jV:=hz.obj hid
   obtain⟨x1,hK,pY,yH,k9⟩:=jD h
   simp only[VR]at OW
   obtain⟨e1,sw,eQ⟩:=OW
   rw[jV]at sw;cases sw
   simp only[AR]at eQ
   obtain⟨hi,b,hb,hu⟩:=eQ
   have ff:=df.mem.dH id _ jV
   simp only[ER]at ff
   obtain⟨b',cs,te,bT,hg,hM,hr⟩:=ff
   rw[hb]at bT;cases bT
   have yH:=yH hi
   have Hw:=hr.length
   rw[aJ]at Hw
   have bG:=eF (P:=P) ho nL hu hg w9 ω hV.cells.fU
   rw[aJ]at bG
   have pv:Tr c (a8 σ.H ups) w M' ν (aC (a8 σ.H ups) id (some (.obj υ x1))) (w.setRow b (ca cs.toList (bb p υ) (a.eval y).cells.toList).toArray) M' ν:=by
    refine Tr.write (e':= .obj υ x1) df.mem jV trivial trivial rfl (by rw[hb];rfl) hg λzm hk pw=> ?_
    simp only[ER]
    refine⟨b,_,te,hb,setRow_heap w b cs _ te _ hg,pw,?_⟩
    exact(k9 w M' cs.toList _ hi hr hV.cells).aV hk
   refine gU bG ?_
   refine hn _ _ _ _ _ M' ν hK ?_ (by simp[VR])
   rw[cz]
   have:=df.trans pv
   unfold ca at this
   rw[aJ]at this
   exact this
  ·rename_i e l hid
   split at h
   ·rename_i i q h0
    obtain⟨sx,h⟩:=g5 h
    have jV:a8 σ.H ups id=some (.own e l):=by rw[fg id sx];exact hid
    obtain⟨y1,hK,pY,yH,k9⟩:=jD h
    simp only[VR]at OW
    obtain⟨e1,sw,eQ⟩:=OW
    rw[jV]at sw;cases sw
    simp only[AR]at eQ
    obtain⟨i',q',Hy,vo,hi,b,n,cp,hb,hu⟩:=eQ
    cases Hy
    have ff:=df.mem.dH id _ jV
    simp only[ER]at ff
    rcases ff with⟨rfl,_⟩|⟨b',cs,te,cap,bT,hg,hM,F9,hl,vR,hs,hr⟩
    ·simp at vo
    ·rw[hb]at bT;cases bT
     have yH:=yH hi
     have fM:=cc (s:=e.size) vo
     have kI:l.length*e.size≤cp*e.size:=eB _ hl
     have bG:=eF (P:=P) ho nL hu hg w9 ω hV.cells.fU
     rw[aJ]at bG
     have Wj:=hr i vo
     rw[←fV l i e.zero vo]at Wj
     have iO:=k9 w M' _ _ hi Wj hV.cells
     have Z5:((cs.toList.drop (i*e.size)).take e.size).length=e.size:=Wj.length
     have KY:ca cs.toList (i*e.size) (ca ((cs.toList.drop (i*e.size)).take e.size) (bb q e) (a.eval y).cells.toList)=ca cs.toList (i*e.size+bb q e) (a.eval y).cells.toList:=by
      have KB:=iO.length
      have e1:cs.toList=cs.toList.take (i*e.size)++(((cs.toList.drop (i*e.size)).take e.size)++cs.toList.drop (i*e.size+e.size)):=by
       rw[←eC,ik,ik]
      have c6:(cs.toList.take (i*e.size)).length=i*e.size:=by rw[a7,aJ];omega
      conv=>rhs;rw[e1]
      rw[show i*e.size+bb q e=(cs.toList.take (i*e.size)).length+bb q e from by rw[c6],pV,sn (by rw[Z5,aJ];omega)]
      generalize ca ((cs.toList.drop (i*e.size)).take e.size) (bb q e) (a.eval y).cells.toList=m at KB ⊢
      unfold ca
      rw[KB,bs]
     have pv:Tr c (a8 σ.H ups) w M' ν (aC (a8 σ.H ups) id (some (.own e (List.set l i y1)))) (w.setRow b (ca cs.toList (i*e.size+bb q e) (a.eval y).cells.toList).toArray) M' ν:=by
      refine Tr.write (e':= .own e (List.set l i y1)) df.mem jV trivial trivial ⟨rfl,by rw[aT]⟩ (by rw[hb];simp[cn];omega) hg λzm hk pw=> ?_
      simp only[ER]
      refine .inr ⟨b,_,te,cp,by rw[aT];exact hb,setRow_heap w b cs _ te _ hg,pw,F9,by rw[aT];exact hl,vR,?_,?_⟩
      ·rw[←KY,dZ,bV (by rw[iO.length,aJ];omega),aJ];exact hs
      ·have h9:cs.toList.length=cp*e.size:=by rw[aJ,hs]
       have Xe:=jT.set (w:=w) (M:=M') (cs:=cs.toList) (l:=l) hr (by rw[h9];exact kI) vo iO
       rw[KY]at Xe
       exact λj hj=>(Xe j hj).aV hk
     refine gU bG ?_
     refine hn _ _ _ _ _ M' ν hK ?_ (by simp[VR])
     rw[cz]
     have:=df.trans pv
     unfold ca at this
     rw[aJ]at this
     exact this
   ·cases h
  ·cases h
 ·cases h
theorem Fz.dj{H H1:Nat→Option az}(h:Fz H H1){i:Nat}{τ:Ty}{x:τ.den}{p:List Step}{j:Nat}(hi:H i=some (.dj τ x p j)):H1 i=some (.dj τ x p j):=by
 rcases h i with h'|⟨e',l',h1,h2⟩
 ·rw[h',hi]
 ·rw[hi]at h1;cases h1
theorem px{β:Type}{l a:List β}{o:Nat}(hl:o+a.length≤l.length)(i:Nat):(ca l o a)[i]? =if o≤i∧i<o+a.length then a[i-o]? else l[i]? :=by
 unfold ca
 by_cases h1:i<o
 ·rw[af ω,bs,kt (by simp;omega),gK,ae h1]
 ·by_cases h2:i<o+a.length
  ·rw[ae ω,kt (by simp;omega),kq (by simp;omega)]
   simp[du (show o≤l.length by omega)]
  ·rw[af ω,kq (by simp;omega)]
   simp only[aO,a7,du (show o≤l.length by omega),gL]
   congr 1;omega
theorem BO{β:Type}{l a b:List β}{o o':Nat}(h:o'≤o∧o+a.length≤o'+b.length)(h1:o+a.length≤l.length)(h2:o'+b.length≤l.length):ca (ca l o a) o' b=ca l o' b:=by
 have l1:=bV (a:=l) (o:=o) (new:=a) h1
 apply oT
 intro i
 rw[px ω,px ω,px ω]
 by_cases c1:o'≤i∧i<o'+b.length
 ·rw[ae c1,ae c1]
 ·rw[af c1,af c1,af ω]
theorem nc{β:Type}{l:List β}{o:Nat}{u v:β}(h:o<l.length):ca (ca l o [u]) o [v]=ca l o [v]:=
 BO (by simp) (by simp;omega) (by simp;omega)
theorem BP{β:Type}{l a b:List β}{o o':Nat}(h:o+a.length≤o'∨o'+b.length≤o)(h1:o+a.length≤l.length)(h2:o'+b.length≤l.length):ca (ca l o a) o' b=ca (ca l o' b) o a:=by
 have l1:=bV (a:=l) (o:=o) (new:=a) h1
 have l2:=bV (a:=l) (o:=o') (new:=b) h2
 apply oT
 intro i
 rw[px ω,px ω,px ω,px ω]
 by_cases c1:o'≤i∧i<o'+b.length
 ·rw[ae c1,af ω,ae c1]
 ·rw[af c1]
  by_cases c2:o≤i∧i<o+a.length
  ·rw[ae c2,ae c2]
  ·rw[af c2,af c2,af c1]
theorem BQ{m:(υ:Ty)→υ.den→(υ.den→Option α)→Option α}: ∀{τ:Ty} {x:τ.den} {n:Nat} {k:τ.den→Option α},c8 τ x n m k=some r→ ∃υ y o k',ui τ x n υ y o∧m υ y k'=some r:=λh=>by
 obtain⟨υ,y,o,k',h1,h2,_⟩:=fB h
 exact⟨υ,y,o,k',h1,h2⟩
theorem xa{υ:Ty}{u:υ.den}: ∀{p:List Step} {τ:Ty} {x:τ.den} {k:τ.den→Option α},oL υ u p τ x k=some r→ ∃y o,z8 p τ x υ y o
 |[],τ,x,k,h=>by
  obtain⟨e,_⟩:=aE (h:bc υ τ u k=some r)
  subst e
  exact⟨x,0,.nil x⟩
 | .dS n::p,τ,x,k,h=>by
  obtain⟨υ',y,o,k',hf,hm⟩:=BQ (h:c8 τ x n _ k=some r)
  obtain⟨y',o',hp⟩:=xa (k:=k') hm
  exact⟨y',_,.dS hf hp⟩
 | .idx i::p,τ,x,k,h=>by
  cases τ with
  |arr n e=>
   obtain⟨y',o',hp⟩:=xa (p:=p) (τ:=e) (x:=γ x i e.zero) (k:=λz=>k (List.set x i z)) h
   exact⟨y',_,.idx hp⟩
  |_=>simp[oL,vL]at h
theorem zp: ∀{p q:List Step} {τ e:Ty},qk p q=true→cQ q τ (.slice e)=true→bb p τ≤bb q τ∧bb q τ+1≤bb p τ+(yP p τ).size
 |[],q,τ,e,_,hq=>by
  obtain⟨_,_,qw⟩:=m7 hq τ.zero
  have:=qw.bound (fW hq).1
  have h2:=qw.eq.2
  have:(Ty.slice e).size=1:=rfl
  simp only[bb,yP]
  omega
 | .dS a::p,.dS b::q,τ,e,hp,hq=>by
  simp only[qk,bg]at hp
  have:=cJ hp.1
  subst this
  unfold cQ at hq
  split at hq
  ·rename_i c hc
   obtain⟨_,_,hf⟩:=fv hc τ.zero
   have:=hf.eq.1
   subst this
   have:=zp hp.2 hq
   simp only[bb,yP]
   omega
  ·cases hq
 | .dS _::_,[],_,_,hp,_| .dS _::_,.idx _::_,_,_,hp,_| .idx _::_,_,_,_,hp,_=>by simp[qk]at hp
theorem ER.zq{H:Nat→Option az}(hm:Mem c H w M ν){k:Nat}{e:Ty}{l:List e.den}(hk:H k=some (.own e l)): ∃ad cp,ν k= .slice ad l.length cp:=by
 have:=hm.dH k _ hk
 simp only[ER]at this
 rcases this with⟨rfl,a,hv⟩|⟨b,cs,t,cap,hv,_⟩
 ·exact⟨a,0,hv⟩
 ·exact⟨_,cap,hv⟩
theorem nM(hE:EnvTy P E)(hc:Core c σ a.tmps w M ν){t:TypeId}{x y:Operand}(ho:o.op= .store t x y){K:dp α}{τ:Ty}(ht:E.ty t=some τ){id k:Nat}{q:List Step}{e:Ty}{υ:Ty}{z:υ.den}
  (hx:σ.ρ x= .dQ id q) (hy:σ.ρ y= .ref k) {en:az} (hid:σ.H id=some en) (KZ:en.mut) (sy:en.fy (.dj υ z q k)) (hq:cQ q υ (.slice e)=true)
  (gw: ∃b cs te eH u,ν id= .pointer (some ⟨b,0,none⟩)∧w.heap[b]? =some (.cells cs te (0,0))∧Rd w M υ eH z∧cs.toList=ca eH (bb q υ) [u])
  (h:qC τ id k e q υ z σ.H K=some r) (hn:cW c σ a o w M ν K r next):o.wp P a w next Q:=by
 unfold qC at h
 split at h
 ·rename_i e' l hk
  obtain⟨e1,h1⟩:=bU h
  clear h
  subst e1
  obtain⟨e2,h2⟩:=bU h1
  clear h1
  subst e2
  obtain⟨z',hK,pY,yH,k9⟩:=jD h2
  obtain⟨b,cs,te,eH,u,hb,hg,hr,mL⟩:=gw
  have H4:=(fW hq).1
  obtain⟨ad,cp,hνk⟩:=ER.zq hc.mem hk
  have oy:=hc.ev y
  rw[hy]at oy
  simp only[VR]at oy
  have oy:=oy.2
  have yH:=yH H4
  have hlen:=hr.length
  have DT:(Ty.slice e').size=1:=rfl
  have c6:bb q υ<eH.length:=ω
  have w9:cs.toList.length=eH.length:=by rw[mL];exact bV (by simp;omega)
  have hv:=hc.ev x
  rw[hx]at hv
  simp only[VR]at hv
  obtain⟨e3,Nw,eQ⟩:=hv
  rw[hid]at Nw;cases Nw
  have eQ:=eQ.fy sy
  simp only[AR]at eQ
  obtain⟨_,b',bT,hu⟩:=eQ
  rw[hb]at bT;cases bT
  have OX:(a.eval y).cells.toList=[ν k]:=by rw[oy,hνk];rfl
  have kz:(a.eval y).cells.size=(Ty.slice e').size:=by rw[←aJ,OX];rfl
  have bG:=eF (P:=P) ho (hE.ty t _ ht) hu hg kz (by rw[←aJ];omega) (by rw[OX,hνk];simp[Value.oneCell'])
  have iO:(cs.toList.take (bb q υ)++(a.eval y).cells.toList++cs.toList.drop (bb q υ+(a.eval y).cells.toList.length))=ca eH (bb q υ) [ν k]:=by
   rw[OX]
   show ca cs.toList (bb q υ) [ν k]=_
   rw[mL,nc c6]
  rw[iO]at bG
  have Xf:Rd w M υ (ca eH (bb q υ) [.slice none 0 0]) z':=k9 w M eH [.slice none 0 0] H4 hr (Rd.zero w M (.slice e'))
  have df:Tr c σ.H w M ν (aC σ.H id (some (.dj υ z' q k))) (w.setRow b (ca eH (bb q υ) [ν k]).toArray) M ν:=by
   refine Tr.write (e':= .dj υ z' q k) hc.mem hid KZ trivial (by cases en<;>simp only[az.fy]at sy ⊢ <;>exact sy) (by rw[hb];rfl) hg (λzm nf pw=> ?_) (fun τ' x' p' j' hl=> ?_)
   ·simp only[ER]
    refine⟨b,_,te,ca eH (bb q υ) [.slice none 0 0],ν k,hb,setRow_heap w b cs _ te _ hg,pw,Xf.aV nf,?_,by rw[hνk];rfl,e',hq⟩
    rw[nc c6]
   ·cases hl
    refine⟨by rw[hk];simp,b,hb,?_⟩
    rw[cell_of (setRow_heap w b cs _ te _ hg),←dm]
    show(ca eH (bb q υ) [ν k])[bb q υ]? =_
    rw[pW c6]
  exact gU bG (hn _ _ _ _ _ M ν hK df (by simp[VR]))
 ·cases h
theorem xb(hE:EnvTy P E)(hc:Core c σ a.tmps w M ν){t:TypeId}{x y:Operand}(ho:o.op= .store t x y){K:dp α}{τ:Ty}(ht:E.ty t=some τ)
  (h:fm E τ (σ.ρ x) (σ.ρ y) σ.H K=some r) (hn:cW c σ a o w M ν K r next):o.wp P a w next Q:=by
 have hold:gT τ (σ.ρ x) (σ.ρ y) σ.H K=some r→o.wp P a w next Q:=λh=>Gb hE hc ho ht h hn
 unfold fm at h
 simp only at h
 split at h
 ·rename_i id p hx
  have mu:=hx
  split at h
  ·rename_i υ z hid
   split at h
   ·rename_i q e k k5 hy
    cases hp:yL p q
    ·rw[hp]at h;exact hold h
    ·rw[hp]at h
     simp only[aa]at h
     have:=qR hp
     subst this
     have hq:=k6 k5
     have ff:=hc.mem.dH id _ hid
     simp only[ER]at ff
     obtain⟨b,cs,te,hb,hg,hM,hr⟩:=ff
     have c6:bb p υ<cs.toList.length:=by
      obtain⟨_,_,qw⟩:=m7 hq z
      have:=qw.bound (fW hq).1
      have h2:=qw.eq.2
      have:=hr.length
      have:(Ty.slice e).size=1:=rfl
      omega
     refine nM hE hc ho ht hx hy hid trivial rfl hq ⟨b,cs,te,cs.toList,cs.toList[bb p υ],hb,hg,hr,?_⟩ h hn
     exact(pn (ba c6)).symm
   ·exact hold h
  ·rename_i υ z q j hid
   obtain⟨b,cs,te,eH,e0,hb,hg,hM,hr,mL,h1,hq,c6,hj⟩:=hc.mem.linked hid
   have H7:gS true (σ.ρ y) σ.H τ (λy rd ups=>oL τ y p υ z λz=>K .any (id::rd) (ups++[(id,some (cond (qk p q) (.obj υ z) (.dj υ z q j)))]))=some r→o.wp P a w next Q:=by
    intro h
    obtain⟨u,rd,ups,M',h,df,hV,hz,fg⟩:=fA (.refl _) hc.mem (hc.ev y) h
    have jV:=hz.dj hid
    have hv:=hc.ev x
    rw[hx]at hv
    have OW:=VR.aV df.aV df.goes hv
    simp only[VR]at OW
    obtain⟨e1,sw,eQ⟩:=OW
    rw[jV]at sw;cases sw
    simp only[AR]at eQ
    obtain⟨hi,b1,cg,hu⟩:=eQ
    rw[hb]at cg;cases cg
    obtain⟨b2,E1,te2,S3,e3,nI,E2,Ae,H5,K0,K1,KC,K2,hj2⟩:=df.mem.linked jV
    rw[hb]at nI;cases nI
    rw[hg]at E2;cases E2
    obtain⟨z',hK,pY,yH,k9⟩:=jD h
    have yH:=yH hi
    have Hw:=H5.length
    have w9:cs.toList.length=S3.length:=by rw[K0];exact bV (by simp;omega)
    have K3:=hV.cells.length
    rw[aJ]at K3
    have abW:(a.eval y).cells.toList.length=τ.size:=by rw[aJ];exact K3
    have bG:=eF (P:=P) ho (hE.ty t _ ht) hu hg K3 (by rw[←aJ];omega) hV.cells.fU
    have BR:cs.toList.take (bb p υ)++(a.eval y).cells.toList++cs.toList.drop (bb p υ+(a.eval y).cells.toList.length)=ca cs.toList (bb p υ) (a.eval y).cells.toList:=rfl
    rw[BR]at bG
    have OY:=k9 w M' S3 _ hi H5 hV.cells
    have fin: ∀e',e'.mut→az.fy (.dj υ z q j) e'→K .any (id::rd) (ups++[(id,some e')])=some r→(∀zm,cm w M' (w.setRow b (ca cs.toList (bb p υ) (a.eval y).cells.toList).toArray) zm→zm b→ER (w.setRow b (ca cs.toList (bb p υ) (a.eval y).cells.toList).toArray) zm (ν id) e')→
      (∀τ' x' p' j',e'= .dj τ' x' p' j'→(a8 σ.H ups) j'≠none∧ ∃b',ν id= .pointer (some ⟨b',0,none⟩)∧(w.setRow b (ca cs.toList (bb p υ) (a.eval y).cells.toList).toArray).cell? ⟨b',bb p' τ',none⟩=some (ν j'))→o.wp P a w next Q:=by
     intro e' eh yE hK wX k5
     have pv:=Tr.write (e':=e') df.mem jV trivial eh yE (by rw[hb];rfl) hg wX k5
     refine gU bG (hn _ _ _ _ _ M' ν hK ?_ (by simp[VR]))
     rw[cz]
     exact df.trans pv
    cases Aa:qk p q
    ·rw[Aa]at hK
     simp only[ah]at hK
     obtain⟨yy,oo,qw⟩: ∃y o,z8 p υ z τ y o:=xa h
     have Nv:=qw.apart hi hq Aa
     have hoo:=qw.eq.2
     subst hoo
     have Nx:ca cs.toList (bb p υ) (a.eval y).cells.toList=ca (ca S3 (bb p υ) (a.eval y).cells.toList) (bb q υ) [ν j]:=by
      rw[K0]
      exact BP (by simp only[a6];omega) (by simp only[a6];omega) ω
     have KB:=bV (a:=S3) (o:=bb p υ) (new:=(a.eval y).cells.toList) ω
     refine fin (.dj υ z' q j) trivial rfl hK (λzm hk pw=> ?_) (fun τ' x' p' j' hl=> ?_)
     ·simp only[ER]
      exact⟨b,_,te,_,ν j,hb,setRow_heap w b cs _ te _ hg,pw,OY.aV hk,Nx,h1,e0,hq⟩
     ·cases hl
      refine⟨hj2,b,hb,?_⟩
      rw[cell_of (setRow_heap w b cs _ te _ hg),←dm]
      show(ca cs.toList (bb p υ) (a.eval y).cells.toList)[bb q υ]? =_
      rw[Nx,pW ω]
    ·rw[Aa]at hK
     simp only[aa]at hK
     refine fin (.obj υ z') trivial rfl hK (λzm hk pw=> ?_) (fun τ' x' p' j' hl=>by cases hl)
     simp only[ER]
     refine⟨b,_,te,hb,setRow_heap w b cs _ te _ hg,pw,?_⟩
     show Rd _ _ υ (ca cs.toList (bb p υ) (a.eval y).cells.toList) z'
     have jl:=zp Aa hq
     rw[pY]at jl
     have ho:ca cs.toList (bb p υ) (a.eval y).cells.toList=ca S3 (bb p υ) (a.eval y).cells.toList:=by
      rw[K0]
      exact BO (by simp only[a6];omega) (by simp only[a6];omega) ω
     have h9:=OY.aV hk
     rw[←ho]at h9
     exact h9
   split at h
   ·rename_i q' e k k5 hy
    cases hp:(yL p q&&yL q q')
    ·rw[hp]at h;exact H7 h
    ·rw[hp]at h
     simp only[aa]at h
     rw[bg]at hp
     have:=qR hp.1
     subst this
     have:=qR hp.2
     subst this
     refine nM hE hc ho ht hx hy hid trivial rfl (k6 k5) ⟨b,cs,te,eH,ν j,hb,hg,hr,mL⟩ h hn
   ·exact H7 h
  ·exact hold h
 ·exact hold h
theorem Gc(hE:EnvTy P E)(hc:Core c σ a.tmps w M ν){t:TypeId}{x y:Operand}(ho:o.op= .store t x y){K:dp α}{τ:Ty}(ht:E.ty t=some τ)
  (h:mH E τ (σ.ρ x) (σ.ρ y) σ.H K=some r) (hn:cW c σ a o w M ν K r next):o.wp P a w next Q:=by
 unfold mH at h
 split at h
 ·rename_i id υ z n hx hy
  split at h
  ·rename_i m e k5
   cases vS:Nat.beq m n
   ·rw[vS]at h
    simp only[ah]at h
    exact xb hE hc ho ht h hn
   ·rw[vS]at h
    simp only[aa]at h
    have vS:=cJ vS
    subst vS
    obtain⟨e1,h1⟩:=bU h
    clear h
    subst e1
    have hq:=k6 k5
    have oy:=hc.ev y
    rw[hy]at oy
    simp only[VR]at oy
    obtain⟨hV,cs,ad,SZ,hz⟩:=oy
    have K3:(a.eval y).cells=cs:=by rw[SZ];rfl
    obtain⟨en,hid,KZ,hK⟩: ∃en:az,σ.H id=some en∧(∃z0,en= .obj τ z0∨ ∃q j,en= .dj τ z0 q j)∧σ.H (id+2)=none∧K .any [id,id+2] [(id,some (.dj τ z [.dS m] (id+2))),(id+2,some (.own e []))]=some r:=by
     unfold gi at h1
     split at h1
     ·rename_i υ z0 hid
      obtain⟨e2,h2⟩:=bU h1
      clear h1
      subst e2
      obtain⟨h3,h4⟩:=fC h2
      exact⟨_,hid,⟨z0,.inl rfl⟩,h3,h4⟩
     ·rename_i υ z0 q j hid
      obtain⟨e2,h2⟩:=bU h1
      clear h1
      subst e2
      obtain⟨h3,h4⟩:=fC h2
      exact⟨_,hid,⟨z0,.inr ⟨q,j,rfl⟩⟩,h3,h4⟩
     ·cases h1
     ·cases h1
     ·cases h1
    obtain⟨hk,hK⟩:=hK
    have kA:en.mut:=by rcases KZ with⟨z0,rfl|⟨q,j,rfl⟩⟩<;>trivial
    have sy:en.fy (.obj τ z):=by rcases KZ with⟨z0,rfl|⟨q,j,rfl⟩⟩<;>rfl
    obtain⟨b,eH,te,hb,hg,kz⟩: ∃b eH te,ν id= .pointer (some ⟨b,0,none⟩)∧w.heap[b]? =some (.cells eH te (0,0))∧eH.toList.length=τ.size:=by
     rcases KZ with⟨z0,rfl|⟨q,j,rfl⟩⟩
     ·have:=hc.mem.dH id _ hid
      simp only[ER]at this
      obtain⟨b,eH,te,h2,h3,_,h5⟩:=this
      exact⟨b,eH,te,h2,h3,h5.length⟩
     ·obtain⟨b,eH,te,qE,_,h2,h3,_,h5,h6,_,_,h7,_⟩:=hc.mem.linked hid
      refine⟨b,eH,te,h2,h3,?_⟩
      rw[h6,bV (by simp only[a6];omega),h5.length]
    have hv:=hc.ev x
    rw[hx]at hv
    simp only[VR]at hv
    obtain⟨e3,Nw,eQ⟩:=hv
    rw[hid]at Nw;cases Nw
    have eQ:=eQ.fy sy
    simp only[AR]at eQ
    obtain⟨_,b',bT,hu⟩:=eQ
    rw[hb]at bT;cases bT
    have w9:=hV.cells.length
    have bG:=eF (P:=P) ho (hE.ty t _ ht) hu hg (by rw[←aJ];exact w9) (by rw[←aJ,kz];simp[bb]) hV.cells.fU
    have BR:eH.toList.take (bb [] τ)++(a.eval y).cells.toList++eH.toList.drop (bb [] τ+(a.eval y).cells.toList.length)=(a.eval y).cells.toList:=by
     simp only[bb,kS,fT,c7]
     rw[eT ω,cy]
    rw[BR]at bG
    have k9:=setRow_heap w b eH (a.eval y).cells.toList.toArray te _ hg
    have df:=Tr.write (e':= .obj τ z) (new:=(a.eval y).cells.toList.toArray) hc.mem hid kA trivial sy (by rw[hb];rfl) hg (λzm nf pw=>by
     simp only[ER]
     exact⟨b,_,te,hb,k9,pw,hV.cells.aV nf⟩)
    have eX:id+2≠id:=ω
    have pv:=Tr.HY df.mem (id:=id) (k:=id+2) (by rw[aj _ _ eX];exact hk) (ag _ _ _) hb k9 hq (ad:=ad) (by rw[K3];simpa [bb]using hz)
    have e1:a8 (aC σ.H id (some (.obj τ z))) [(id,some (.dj τ z [.dS m] (id+2))),(id+2,some (.own e []))]=a8 σ.H [(id,some (.dj τ z [.dS m] (id+2))),(id+2,some (.own e []))]:=by
     show aC (aC (aC σ.H id _) id _) (id+2) _=aC (aC σ.H id _) (id+2) _
     rw[qT]
    rw[e1]at pv
    exact gU bG (hn _ _ _ _ _ _ _ hK (df.trans pv) (by simp[VR]))
  ·exact xb hE hc ho ht h hn
 ·exact xb hE hc ho ht h hn
theorem tw(hE:EnvTy P E)(hc:Core c σ a.tmps w M ν){t:TypeId}{x y:Operand}(ho:o.op= .store t x y){K:dp α}{τ:Ty}(ht:E.ty t=some τ)
  (h:mI E τ (σ.ρ x) (σ.ρ y) σ.H K=some r) (hn:cW c σ a o w M ν K r next):o.wp P a w next Q:=by
 unfold mI at h
 split at h
 ·rename_i id υ z n j hx hy
  split at h
  ·rename_i m e k5
   obtain⟨vS,h0⟩:=aP h
   clear h
   have vS:=cJ vS
   subst vS
   obtain⟨e1,h1⟩:=bU h0
   clear h0
   subst e1
   have hq:=k6 k5
   have oy:=hc.ev y
   rw[hy]at oy
   simp only[VR]at oy
   obtain⟨cs,eH,SZ,OY,mL,hj,qF⟩:=oy
   have K3:(a.eval y).cells=cs:=by rw[SZ];rfl
   obtain⟨en,hid,KZ,h2⟩: ∃en:az,σ.H id=some en∧(∃z0,en= .obj τ z0∨ ∃q j,en= .dj τ z0 q j)∧(match σ.H j with
    |some (.own e' _)=>ef e' e (K .any [id,j] [(id,some (.dj τ z [.dS m] j))])
    |_=>none)=some r:=by
    unfold gi at h1
    split at h1
    ·rename_i υ z0 hid
     obtain⟨e2,h2⟩:=bU h1
     clear h1
     subst e2
     exact⟨_,hid,⟨z0,.inl rfl⟩,h2⟩
    ·rename_i υ z0 q j hid
     obtain⟨e2,h2⟩:=bU h1
     clear h1
     subst e2
     exact⟨_,hid,⟨z0,.inr ⟨q,j,rfl⟩⟩,h2⟩
    ·cases h1
    ·cases h1
    ·cases h1
   obtain⟨l,sv,hK⟩: ∃l,σ.H j=some (.own e l)∧K .any [id,j] [(id,some (.dj τ z [.dS m] j))]=some r:=by
    split at h2
    ·rename_i e' l sv
     obtain⟨e3,h3⟩:=bU h2
     clear h2
     subst e3
     exact⟨l,sv,h3⟩
    ·cases h2
   have tq:(ν j).oneCell'=true:=by
    have:=hc.mem.dH j _ sv
    simp only[ER]at this
    rcases this with⟨_,ad,hv⟩|⟨b,cs,t,cap,hv,_⟩<;>rw[hv]<;>rfl
   have kA:en.mut:=by rcases KZ with⟨z0,rfl|⟨q,j,rfl⟩⟩<;>trivial
   have sy:en.fy (.dj τ z [.dS m] j):=by rcases KZ with⟨z0,rfl|⟨q,j,rfl⟩⟩<;>rfl
   obtain⟨b,E1,te,hb,hg,kz⟩: ∃b E1 te,ν id= .pointer (some ⟨b,0,none⟩)∧w.heap[b]? =some (.cells E1 te (0,0))∧E1.toList.length=τ.size:=by
    rcases KZ with⟨z0,rfl|⟨q,j,rfl⟩⟩
    ·have:=hc.mem.dH id _ hid
     simp only[ER]at this
     obtain⟨b,eH,te,h2,h3,_,h5⟩:=this
     exact⟨b,eH,te,h2,h3,h5.length⟩
    ·obtain⟨b,eH,te,qE,_,h2,h3,_,h5,h6,_,_,h7,_⟩:=hc.mem.linked hid
     refine⟨b,eH,te,h2,h3,?_⟩
     rw[h6,bV (by simp only[a6];omega),h5.length]
   have hv:=hc.ev x
   rw[hx]at hv
   simp only[VR]at hv
   obtain⟨e3,Nw,eQ⟩:=hv
   rw[hid]at Nw;cases Nw
   have eQ:=eQ.fy sy
   simp only[AR]at eQ
   obtain⟨_,b',bT,hu⟩:=eQ
   rw[hb]at bT;cases bT
   obtain⟨y0,o0,Ny⟩:=fv (qU qF).choose_spec.2 z
   have Z7:=Ny.bound
   rw[Ny.eq.2]at Z7
   have DT:(Ty.slice (qU qF).choose).size=1:=rfl
   rw[DT]at Z7
   have SU:=OY.length
   have c6:de τ m<eH.length:=ω
   have w9:cs.toList.length=τ.size:=by rw[mL,bV (by simp only[a6];omega),SU]
   have xc: ∀v∈cs.toList,v.oneCell'=true:=by
    intro v hv
    rw[mL]at hv
    unfold ca at hv
    simp only[bt,dK]at hv
    rcases hv with(hv|hv)|hv
    ·exact OY.fU v (il hv)
    ·rw[hv];exact tq
    ·exact OY.fU v (wz hv)
   have bG:=eF (P:=P) ho (hE.ty t _ ht) hu hg (by rw[K3,←aJ];exact w9) (by rw[←aJ,kz];simp[bb]) (by rw[K3];exact xc)
   have BR:E1.toList.take (bb [] τ)++(a.eval y).cells.toList++E1.toList.drop (bb [] τ+(a.eval y).cells.toList.length)=cs.toList:=by
    rw[K3]
    simp only[bb,kS,fT,c7]
    rw[eT ω,cy]
   rw[BR]at bG
   have k9:=setRow_heap w b E1 cs.toList.toArray te _ hg
   have S4:bb [.dS m] τ=de τ m:=by simp[bb]
   have df:=Tr.write (e':= .dj τ z [.dS m] j) (new:=cs.toList.toArray) hc.mem hid kA trivial sy (by rw[hb];rfl) hg (λzm nf pw=>by
    simp only[ER]
    exact⟨b,_,te,eH,ν j,hb,k9,pw,OY.aV nf,by rw[S4];exact mL,tq,e,hq⟩) (fun τ' x' p' j' hl=>by
    cases hl
    refine⟨hj,b,hb,?_⟩
    rw[cell_of k9,S4]
    show cs.toList.toArray[de τ m]? =_
    rw[oQ,mL,pW c6])
   exact gU bG (hn _ _ _ _ _ _ _ hK df (by simp[VR]))
  ·cases h
 ·exact Gc hE hc ho ht h hn
theorem Gd(hE:EnvTy P E)(hc:Core c σ a.tmps w M ν){t:TypeId}{x y:Operand}(ho:o.op= .store t x y){K:dp α}{τ:Ty}(ht:E.ty t=some τ)
  (h:k4 E τ (σ.ρ x) (σ.ρ y) σ.H K=some r) (hn:cW c σ a o w M ν K r next):o.wp P a w next Q:=by
 unfold k4 at h
 split at h
 ·rename_i id n k hx hy
  cases hb:OK E id n
  ·rw[hb]at h
   exact tw hE hc ho ht (by rw[hx,hy];exact h) hn
  ·rw[hb]at h
   simp only[aa]at h
   split at h
   ·rename_i υ z q j hid
    cases hp:yL q [.dS n]
    ·rw[hp]at h
     simp only[ah]at h
     split at h
     ·rename_i e BS
      obtain⟨z',ups,M',h,df,Z8,_,b,cs,te,SV,hg,hM,hr⟩:=nK hc.mem hid h
      have hq:cQ [.dS n] υ (.slice e)=true:=by simp[cQ,BS]
      have Hz:Core c ⟨σ.T,a8 σ.H ups⟩ a.tmps w M' ν:=⟨df.mem,λi=>VR.aV df.aV df.goes (hc.tmp i)⟩
      have c6:bb [.dS n] υ<cs.toList.length:=by
       obtain⟨y0,o0,Ny⟩:=fv BS z'
       have h1:=Ny.bound
       have h2:=Ny.eq.2
       have h3:=hr.length
       have h4:(Ty.slice e).size=1:=rfl
       show de υ n+0<_
       omega
      refine nM (σ:=⟨σ.T,a8 σ.H ups⟩) hE Hz ho ht hx hy (Z8.dj hid) trivial rfl hq ⟨b,cs,te,cs.toList,cs.toList[bb [.dS n] υ],SV,hg,hr,(pn (ba c6)).symm⟩ h ?_
      intro v rd eg v' w' zm ν'' hK Ge K4
      refine hn v _ _ v' w' zm ν'' hK ?_ ?_
      ·rw[cz];exact df.trans Ge
      ·rw[cz];exact K4
     ·cases h
    ·rw[hp]at h
     exact tw hE hc ho ht (by rw[hx,hy];exact h) λv rd ups v' w' M' ν' h1 h2 h3=>hn v (id::rd) ups v' w' M' ν' h1 h2 h3
   ·rename_i υ z hid
    split at h
    ·rename_i e BS
     have hq:cQ [.dS n] υ (.slice e)=true:=by simp[cQ,BS]
     have ff:=hc.mem.dH id _ hid
     simp only[ER]at ff
     obtain⟨b,cs,te,SV,hg,hM,hr⟩:=ff
     have c6:bb [.dS n] υ<cs.toList.length:=by
      obtain⟨y0,o0,Ny⟩:=fv BS z
      have h1:=Ny.bound
      have h2:=Ny.eq.2
      have h3:=hr.length
      have h4:(Ty.slice e).size=1:=rfl
      show de υ n+0<_
      omega
     exact nM hE hc ho ht hx hy hid trivial rfl hq ⟨b,cs,te,cs.toList,cs.toList[bb [.dS n] υ],SV,hg,hr,(pn (ba c6)).symm⟩ h hn
    ·cases h
   ·cases h
 ·exact tw hE hc ho ht h hn
theorem nb{n:Nat}(h:Nat.beq n 0=false):n≠0:=by rw[←fQ,o9]at h;exact h
theorem At.sub{b off:Nat}{cs:List Value}(h:At w b off cs)(o n:Nat):At w b (off+o) ((cs.drop o).take n):=by
 intro j v hj
 rw[gK]at hj
 split at hj
 ·rw[gL]at hj
  have:=h _ v hj
  rwa [←ju]at this
 ·cases hj
def oz:az→List Step→Option Ty
 | .obj τ _,p=>some (yP p τ)
 | .dj τ _ _ _,p=>some (yP p τ)
 | .own e _,.idx _::p| .jk e _,.idx _::p=>some (yP p e)
 |_,_=>none
theorem xd{id:Nat}{p:List Step}{H:Nat→Option az}{k:Ty→Option α}(h:gi id p H k=some r): ∃e υ,H id=some e∧oz e p=some υ∧k υ=some r:=by
 unfold gi at h
 split at h
 ·rename_i τ x hid
  obtain⟨υ,y,o,hp,hk⟩:=fu h
  exact⟨_,υ,hid,by simp[oz,hp.eq.1],hk⟩
 ·rename_i τ x _ _ hid
  obtain⟨υ,y,o,hp,hk⟩:=fu h
  exact⟨_,υ,hid,by simp[oz,hp.eq.1],hk⟩
 ·rename_i e l hid
  split at h
  ·obtain⟨υ,y,o,hp,hk⟩:=fu h
   exact⟨_,υ,hid,by simp[oz,hp.eq.1],hk⟩
  ·cases h
 ·rename_i e l hid
  split at h
  ·obtain⟨υ,y,o,hp,hk⟩:=fu h
   exact⟨_,υ,hid,by simp[oz,hp.eq.1],hk⟩
  ·cases h
 ·cases h
theorem AR.step{v:Value}{p:List Step}{u:Value}{e:az}{υ:Ty}(h:AR v p u e)(ht:oz e p=some υ)(s:Step)(hs:qu [s] υ):
  ∃b off,u= .pointer (some ⟨b,off,none⟩)∧AR v (p++[s]) (.pointer (some ⟨b,off+bb [s] υ,none⟩)) e:=by
 cases e with
 |obj τ x=>
  simp only[oz,cK]at ht
  simp only[AR]at h ⊢
  obtain⟨hi,b,hb,rfl⟩:=h
  subst ht
  exact⟨b,_,rfl,(mo p [s] τ).2 ⟨hi,hs⟩,b,hb,by rw[mm]⟩
 |dj τ x _ _=>
  simp only[oz,cK]at ht
  simp only[AR]at h ⊢
  obtain⟨hi,b,hb,rfl⟩:=h
  subst ht
  exact⟨b,_,rfl,(mo p [s] τ).2 ⟨hi,hs⟩,b,hb,by rw[mm]⟩
 |own e l=>
  simp only[AR]at h ⊢
  obtain⟨i,q,rfl,vo,hi,b,n,cp,hb,rfl⟩:=h
  simp only[oz,cK]at ht
  subst ht
  exact⟨b,_,rfl,i,q++[s],rfl,vo,(mo q [s] e).2 ⟨hi,hs⟩,b,n,cp,hb,by rw[mm,ju]⟩
 |jk e l=>
  simp only[AR]at h ⊢
  obtain⟨i,q,rfl,vo,hi,b,n,cp,hb,rfl⟩:=h
  simp only[oz,cK]at ht
  subst ht
  exact⟨b,_,rfl,i,q++[s],rfl,vo,(mo q [s] e).2 ⟨hi,hs⟩,b,n,cp,hb,by rw[mm,ju]⟩
 |cV _ _ _=>simp[oz]at ht
 |gone=>simp[oz]at ht
theorem tx(hE:EnvTy P E)(hc:Core c σ a.tmps w M ν){t:TypeId}{x:Operand}{n:Nat}(ho:o.op= .fieldAddr t x n){K:dp α}{τ:Ty}(ht:E.ty t=some τ){id:Nat}{p:List Step}(hx:σ.ρ x= .dQ id p)
  (h:gi id p σ.H (fun υ=>ef υ τ (nC τ τ.zero n fun υ' _=>cond (Nat.beq υ'.size 0) none (K (.dQ id (p++[.dS n])) [id] [])))=some r) (hn:cW c σ a o w M ν K r next):o.wp P a w next Q:=by
 obtain⟨e,υ,hid,het,h⟩:=xd h
 obtain⟨OZ,h_⟩:=bU h
 clear h
 subst OZ
 have h:=h_
 clear h_
 obtain⟨υ',y,of,hf,h⟩:=jB h
 obtain⟨hz,h⟩:=g5 h
 have hv:=hc.ev x
 rw[hx]at hv
 simp only[VR]at hv
 obtain⟨e',lO,eQ⟩:=hv
 rw[hid]at lO;cases lO
 obtain⟨b,off,hu,O0⟩:=eQ.step het (.dS n) trivial
 obtain⟨fs,f,Bb,S5,Sc,zr⟩:=(hE.ty t υ ht).dS hf
 obtain⟨v,bG,Xg⟩:=m8 (P:=P) ho (w:=w) Bb S5 zr (nb hz) hu
 refine av bG (hn _ _ _ _ _ M ν h (.refl hc.mem) ?_)
 simp only[VR]
 refine⟨e,hid,?_⟩
 rw[Xg,Sc,hf.eq.2]
 simpa [bb]using O0
theorem sA(hE:EnvTy P E)(hc:Core c σ a.tmps w M ν){t:TypeId}{x:Operand}{n:Nat}(ho:o.op= .fieldAddr t x n){K:dp α}{τ:Ty}(ht:E.ty t=some τ){υ:Ty}{z:υ.den}(hx:σ.ρ x= .kW υ z)
  (h:ef υ τ (nC υ z n fun υ y=>cond (Nat.beq υ.size 0) none (K (.kW υ y) [] []))=some r) (hn:cW c σ a o w M ν K r next):o.wp P a w next Q:=by
 obtain⟨he,h1⟩:=bU h
 subst he
 obtain⟨υ',y,of,hf,h⟩:=jB h1
 obtain⟨hz,h⟩:=g5 h
 have hv:=hc.ev x
 rw[hx]at hv
 simp only[VR]at hv
 obtain⟨b,off,hu,hb,hM,cs,lK,hr⟩:=hv
 obtain⟨fs,f,Bb,S5,Sc,zr⟩:=(hE.ty t υ ht).dS hf
 obtain⟨v,bG,Xg⟩:=m8 (P:=P) ho (w:=w) Bb S5 zr (nb hz) hu
 refine av bG (hn _ _ _ _ _ M ν h (.refl hc.mem) ?_)
 simp only[VR]
 exact⟨b,off+f.offset,Xg,hb,hM,_,by rw[Sc];exact lK.sub of υ'.size,hf.rd hr⟩
theorem V.agg{τ:Ty}(ha:τ.isAgg=true){v:Value}{x:τ.den}(h:V w M τ v x): ∃cs,v= .agg cs∧Rd w M τ cs.toList x:=by
 unfold V at h;rw[ae ha]at h;exact h
theorem ui.agg{τ:Ty}{x:τ.den}{n:Nat}{υ:Ty}{y:υ.den}{o:Nat}(h:ui τ x n υ y o):τ.isAgg=true:=by cases h<;>rfl
theorem H8(hE:EnvTy P E)(hc:Core c σ a.tmps w M ν){t:TypeId}{x:Operand}{n:Nat}(ho:o.op= .field t x n){K:dp α}{τ:Ty}(ht:E.ty t=some τ){υ:Ty}{z:υ.den}(hx:σ.ρ x= .val υ z)
  (h:ef υ τ (nC υ z n fun υ y=>K (.val υ y) [] [])=some r) (hn:cW c σ a o w M ν K r next):o.wp P a w next Q:=by
 obtain⟨he,h1⟩:=bU h
 subst he
 obtain⟨υ',y,of,hf,h⟩:=jB h1
 have hv:=hc.ev x
 rw[hx]at hv
 simp only[VR]at hv
 obtain⟨cs,hu,hr⟩:=hv.agg hf.agg
 obtain⟨fs,f,Bb,S5,Sc,zr⟩:=(hE.ty t υ ht).dS hf
 have mK:=hf.rd hr
 refine av (Ac ho Bb S5 zr hu (by rw[Sc];exact mK)) (hn _ _ _ _ _ M ν h (.refl hc.mem) ?_)
 simp only[VR]
 rw[Sc]
 exact V.aK mK
theorem Af(hE:EnvTy P E)(hc:Core c σ a.tmps w M ν){t:TypeId}{x i:Operand}(ho:o.op= .indexAddr t x i){K:dp α}{τ:Ty}(ht:E.ty t=some τ)
  (h:dy τ (σ.ρ x) (σ.ρ i) σ.H K=some r) (hn:cW c σ a o w M ν K r next):o.wp P a w next Q:=by
 unfold dy at h
 obtain⟨k,n,hi,h2⟩:=iy h
 clear h
 have h:=h2
 clear h2
 have BT:=hc.ev i
 rw[hi]at BT
 have BT:=BT.int
 have hv:=hc.ev x
 have nL:=hE.ty t τ ht
 split at h
 ·
  rename_i e
  obtain⟨e',Bb,hle⟩:=nL.slice
  split at h
  ·rename_i υ l hx
   obtain⟨e1,h⟩:=aE h
   subst e1
   obtain⟨jl,h⟩:=aP h
   obtain⟨h0,h1⟩:=mv jl
   have h1:n<(ℓ l:Int):=h1
   rw[hx]at hv
   simp only[VR]at hv
   have hv:=V.slice.1 hv
   simp only[Rd,cM,cT]at hv
   obtain⟨ad,cap,hu,O1,hr⟩:=hv
   obtain⟨b,off,rfl,hb,hM,cs,lK,fg⟩:=hr n.toNat ω
   refine av (ec ho Bb hle hu BT h0 h1) (hn _ _ _ _ _ M ν h (.refl hc.mem) ?_)
   simp only[VR]
   refine⟨b,_,rfl,hb,hM,cs,lK,?_⟩
   have:Rd w M e cs (γ l n.toNat e.zero):=by rw[fV l n.toNat e.zero ω];exact fg
   exact this
  ·rename_i id hx
   rw[hx]at hv
   simp only[VR]at hv
   obtain⟨_,hu⟩:=hv
   split at h
   ·rename_i e2 l hid
    obtain⟨OZ,h_⟩:=bU h
    clear h
    subst OZ
    have h:=h_
    clear h_
    obtain⟨jl,h⟩:=aP h
    obtain⟨h0,h1⟩:=mv jl
    have ff:=hc.mem.dH id _ hid
    simp only[ER]at ff
    rcases ff with⟨rfl,_⟩|⟨b,cs,te,cap,hb,hg,hM,F9,hl,vR,hs,hr⟩
    ·simp at h1;omega
    ·rw[hb]at hu
     refine av (ec ho Bb hle hu BT h0 h1) (hn _ _ _ _ _ M ν h (.refl hc.mem) ?_)
     simp only[VR]
     refine⟨_,hid,?_⟩
     simp only[AR]
     exact⟨n.toNat,[],rfl,ω,trivial,b,_,_,hb,by simp[bb]⟩
   ·rename_i e2 l hid
    obtain⟨OZ,h_⟩:=bU h
    clear h
    subst OZ
    have h:=h_
    clear h_
    obtain⟨jl,h⟩:=aP h
    obtain⟨h0,h1⟩:=mv jl
    have ff:=hc.mem.dH id _ hid
    simp only[ER]at ff
    obtain⟨fg,hhd⟩:=ff
    simp only[Rd,cM,cT]at fg
    obtain⟨ad,cap,hb,O1,hr⟩:=fg
    rcases hhd with⟨rfl,_⟩|⟨b,n2,c2,nI⟩
    ·simp at h1;omega
    ·rw[hb]at nI;cases nI
     rw[hb]at hu
     refine av (ec ho Bb hle hu BT h0 h1) (hn _ _ _ _ _ M ν h (.refl hc.mem) ?_)
     simp only[VR]
     refine⟨_,hid,?_⟩
     simp only[AR]
     exact⟨n.toNat,[],rfl,ω,trivial,b,_,_,hb,by simp[bb]⟩
   ·cases h
  ·cases h
 ·
  rename_i len e
  obtain⟨e',Bb,hle⟩:=nL.arr
  split at h
  ·rename_i id p hx
   obtain⟨en,υ,hid,het,h⟩:=xd h
   obtain⟨OZ,h_⟩:=bU h
   clear h
   subst OZ
   have h:=h_
   clear h_
   obtain⟨jl,h⟩:=aP h
   obtain⟨h0,h1⟩:=mv jl
   rw[hx]at hv
   simp only[VR]at hv
   obtain⟨en',lO,eQ⟩:=hv
   rw[hid]at lO;cases lO
   obtain⟨b,off,hu,O0⟩:=eQ.step het (.idx n.toNat) ⟨⟨len,e,rfl,ω⟩,trivial⟩
   refine av (mq ho Bb hle hu BT h0 h1) (hn _ _ _ _ _ M ν h (.refl hc.mem) ?_)
   simp only[VR]
   refine⟨en,hid,?_⟩
   simpa [bb,ON]using O0
  ·rename_i υ l hx
   obtain⟨e1,h⟩:=aE h
   subst e1
   obtain⟨jl,h⟩:=aP h
   obtain⟨h0,h1⟩:=mv jl
   rw[hx]at hv
   simp only[VR]at hv
   obtain⟨b,off,hu,hb,hM,cs,lK,hr⟩:=hv
   refine av (mq ho Bb hle hu BT h0 h1) (hn _ _ _ _ _ M ν h (.refl hc.mem) ?_)
   simp only[VR]
   exact⟨b,_,rfl,hb,hM,_,lK.sub _ e.size,hr.idx ω⟩
  ·cases h
 ·cases h
theorem vp(hc:Core c σ a.tmps w M ν){x:Operand}(ho:o.op= .nilCheck x){K:dp α}{id:Nat}{p:List Step}(hx:σ.ρ x= .dQ id p)
  (h:K (.dQ id p) [] []=some r) (hn:cW c σ a o w M ν K r next):o.wp P a w next Q:=by
 have hv:=hc.ev x
 have KD:=hv
 rw[hx]at hv
 simp only[VR]at hv
 obtain⟨e,he,eQ⟩:=hv
 obtain⟨ad,hu⟩:=eQ.ptr
 refine av (ox ho hu) (hn _ _ _ _ _ M ν h (.refl hc.mem) ?_)
 rw[←hu,←hx];exact KD
theorem tz(hc:Core c σ a.tmps w M ν){x:Operand}(ho:o.op= .nilCheck x){K:dp α}{τ:Ty}{z:τ.den}(hx:σ.ρ x= .kW τ z)
  (h:K (.kW τ z) [] []=some r) (hn:cW c σ a o w M ν K r next):o.wp P a w next Q:=by
 have hv:=hc.ev x
 have KD:=hv
 rw[hx]at hv
 simp only[VR]at hv
 obtain⟨b,off,hu,_⟩:=hv
 refine av (ox ho hu) (hn _ _ _ _ _ M ν h (.refl hc.mem) ?_)
 rw[←hu,←hx];exact KD
theorem eE.get{H:Nat→Option az}: ∀{kv:List aF} {vs:List Value},eE w M H ν kv vs→ ∀{i:Nat} {x:aF},kv[i]? =some x→ ∃v,vs[i]? =some v∧VR w M H ν x v
 |[],_,_,i,x,hx=>by simp at hx
 |y::kv,[],h,_,_,_=>by simp[eE]at h
 |y::kv,v::vs,h,0,x,hx=>by
  simp only[eE]at h
  simp at hx;subst hx
  exact⟨v,rfl,h.1⟩
 |y::kv,v::vs,h,i+1,x,hx=>by
  simp only[eE]at h
  exact eE.get h.2 (by simpa using hx)
theorem D7(hc:Core c σ a.tmps w M ν){x:Operand}{i:Nat}(ho:o.op= .extract x i){K:dp α}{vs:List aF}{v:aF}(hx:σ.ρ x= .Sa vs)(hi:vs[i]? =some v)
  (h:K v [] []=some r) (hn:cW c σ a o w M ν K r next):o.wp P a w next Q:=by
 have hv:=hc.ev x
 rw[hx]at hv
 simp only[VR]at hv
 obtain⟨us,hu,K5⟩:=hv
 obtain⟨u,S6,hvu⟩:=K5.get hi
 exact av (w4 ho hu S6) (hn _ _ _ _ _ M ν h (.refl hc.mem) hvu)
theorem Core.Wk(hc:Core c σ a.tmps w M ν): ∀xs:List Operand,eE w M σ.H ν (xs.map σ.ρ) (xs.map a.eval)
 |[]=>by simp[eE]
 |x::xs=>by simp only[bQ,eE];exact⟨hc.ev x,hc.Wk xs⟩
theorem py: ∀{kv:List aF} {vs:List Value} {H:Nat→Option az} {M:Nat→Prop} {K:List aF→List Nat→dR→Option α},Mem c H w M ν→eE w M H ν kv vs→pe H kv K=some r→
  ∃cs rd ups M',K cs rd ups=some r∧Tr c H w M ν (a8 H ups) w M' ν∧eE w M' (a8 H ups) ν cs vs
 |[],vs,H,M,K,hm,hv,h=>⟨[],[],[],M,h,.refl hm,hv⟩
 |x::xs,[],H,M,K,hm,hv,h=>by simp[eE]at hv
 |x::xs,v::vs,H,M,K,hm,hv,h=>by
  simp only[eE]at hv
  unfold pe at h
  split at h
  ·rename_i id
   split at h
   ·rename_i τ z hid
    obtain⟨M1,b,ht,hb,c6,hM,eH,lK,fg⟩:=Tr.fix hm hid
    obtain⟨cs,rd,ups,M2,hK,Ge,O2⟩:=py ht.mem (eE.aV ht.aV ht.goes hv.2) h
    refine⟨_,_,_,M2,hK,ht.trans Ge,?_⟩
    have h1:VR w M1 (aC H id (some .gone)) ν (.kW τ z) v:=by
     have DU:=hv.1
     simp only[VR]at DU ⊢
     obtain⟨e,he,eQ⟩:=DU
     rw[hid]at he;cases he
     simp only[AR]at eQ
     obtain⟨_,b',bT,DU⟩:=eQ
     rw[hb]at bT;cases bT
     exact⟨b,0,DU,c6,hM,eH,lK,fg⟩
    simp only[eE]
    exact⟨VR.aV Ge.aV Ge.goes h1,O2⟩
   ·cases h
  ·obtain⟨cs,rd,ups,M2,hK,Ge,O2⟩:=py hm hv.2 h
   refine⟨_,_,_,M2,hK,Ge,?_⟩
   simp only[eE]
   exact⟨VR.aV Ge.aV Ge.goes hv.1,O2⟩
theorem BU(hc:Core c σ a.tmps w M ν){f:FuncId}{first kX:Array Operand}(ho:o.op= .makeFunc (.func f) first kX){K:dp α}
  (h:cond first.isEmpty (pe σ.H (kX.toList.map σ.ρ) λcs rd ups=>K (.BD f cs) rd ups) none=some r) (hn:cW c σ a o w M ν K r next):o.wp P a w next Q:=by
 obtain⟨hf,h⟩:=aP h
 obtain⟨cs,rd,ups,M',hK,ht,hv⟩:=py hc.mem (hc.Wk _) h
 refine av (vm ho (by simpa using hf)) (hn _ _ _ _ _ M' ν hK ht ?_)
 simp only[VR]
 exact⟨kX.toList.map a.eval,by congr 1;apply eb;simp,hv⟩
theorem D8(hE:EnvTy P E)(hc:Core c σ a.tmps w M ν){s d:TypeId}{x:Operand}(ho:o.op= .convert s d x){K:dp α}{τ:Ty}{k:IntKind}(hs:E.ty s=some τ)(hd:E.ty d=some (.int k))
  (h:oM (σ.ρ x) (λ_ n=>K (.val (.int k) (W k n)) [] [])=some r) (hn:cW c σ a o w M ν K r next):o.wp P a w next Q:=by
 obtain⟨k',n,hx,h⟩:=iy h
 have hv:=hc.ev x
 rw[hx]at hv
 refine av (w5 ho (hE.ty s τ hs).isSome (hE.ty d _ hd).int hv.int) (hn _ _ _ _ _ M ν h (.refl hc.mem) ?_)
 rw[vj];exact .mkInt k _
end VM
end
