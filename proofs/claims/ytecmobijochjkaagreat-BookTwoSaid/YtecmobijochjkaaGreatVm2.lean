/- A part of the proof of BookTwo of layer 18: a machine that reads a function of the program as an equation between values. -/
import Derived.Test.YtecmobijochjkaaGreatVm1
import Derived.Great.BuildSlice
import Derived.Laws.Tables
set_option linter.all false
open List renaming length→ℓ, getD→γ
section
namespace VM
open Go
theorem kZ{α:Type}{r:α}: ∀{τ:Ty} {x:τ.den} {n:Nat} {m:(υ:Ty)→υ.den→(υ.den→Option α)→Option α} {k:τ.den→Option α},fT τ x n m k=some r→
  ∃υ y o k',DL τ x n υ y o∧m υ y k'=some r∧ ∀z r',k' z=some r'→ ∃x',k x'=some r'∧DL τ x' n υ z o∧
   ∀(w:World) (M:Nat→Prop) cs cs',Rd w M τ cs x→Rd w M υ cs' z→Rd w M τ (eM cs o cs') x'
 | .pair a b,x,0,m,k,h=>by
  refine⟨a,x.1,0,_,.here x,h,λz r' hz=>⟨(z,x.2),hz,.here (a:=a) (b:=b) (z,x.2),λw M cs cs' hr eQ=> ?_⟩⟩
  simp only[Rd]at hr ⊢
  obtain⟨c1,c2,rfl,h1,h2⟩:=hr
  refine⟨cs',c2,?_,eQ,h2⟩
  rw[A7 (by rw[eQ.length,h1.length];omega)]
  congr 1
  unfold eM
  rw[gm,eQ.length,←h1.length];simp
 | .pair a b,x,n+1,m,k,h=>by
  obtain⟨υ,y,o,k',hf,hm,hk⟩:=kZ (τ:=b) (x:=x.2) (n:=n) (m:=m) (k:=λz=>k (x.1,z)) h
  refine⟨υ,y,_,k',.there x hf,hm,λz r' hz=> ?_⟩
  obtain⟨x',oW,zQ,kB⟩:=hk z r' hz
  refine⟨(x.1,x'),oW,.there (a:=a) (b:=b) (x.1,x') zQ,λw M cs cs' hr eQ=> ?_⟩
  simp only[Rd]at hr ⊢
  obtain⟨c1,c2,rfl,h1,h2⟩:=hr
  refine⟨c1,_,?_,h1,kB w M c2 cs' h2 eQ⟩
  rw[←h1.length,yK]
 | .int _,_,_,_,_,h| .bool,_,_,_,_,h| .str,_,_,_,_,h| .slice _,_,_,_,_,h| .unit,_,_,_,_,h| .arr _ _,_,_,_,_,h=>by simp[fT]at h
def pF(w:World)(M:Nat→Prop)(e:Ty)(cs:List Value)(l:List e.den):Prop:=
 ∀i (h:i<l.length),Rd w M e ((cs.drop (i*e.size)).take e.size) l[i]
theorem eC{i n s:Nat}(h:i<n):i*s+s≤n*s:=by
 have:(i+1)*s≤n*s:=kz _ h
 rw[eG,kS]at this;exact this
theorem pF.set{w:World}{M:Nat→Prop}{e:Ty}{cs:List Value}{l:List e.den}(h:pF w M e cs l)(hl:l.length*e.size≤cs.length){i:Nat}(hi:i<l.length){cs':List Value}{y:e.den}(hr:Rd w M e cs' y):
  pF w M e (eM cs (i*e.size) cs') (l.set i y):=by
 have hlen:=hr.length
 intro j hj
 rw[bN]at hj
 have h1:=eC (s:=e.size) hi
 have h2:=eC (s:=e.size) hj
 by_cases qy:j=i
 ·subst qy
  have:=aj2 (a:=cs) (o:=j*e.size) (new:=cs') ω
  rw[hlen]at this
  rw[this,List.getElem_set_self];exact hr
 ·rw[Fp (by
   rcases Nat.lt_or_gt_of_ne qy with eU|eU
   ·have:=eC (s:=e.size) eU;left;omega
   ·have:=eC (s:=e.size) eU;right;omega) ω,List.getElem_set_ne (fc qy)]
  exact h j hj
theorem pF.append{w:World}{M:Nat→Prop}{e:Ty}{c1 c2:List Value}{l1 l2:List e.den}(h1:pF w M e c1 l1)(hl:c1.length=l1.length*e.size)(h2:pF w M e c2 l2):pF w M e (c1++c2) (l1++l2):=by
 intro i hi
 by_cases eU:i<l1.length
 ·have:=eC (s:=e.size) eU
  rw[w9 ω,yH (by rw[eg];omega),AB eU]
  exact h1 i eU
 ·rw[aS]at hi
  obtain⟨k,rfl⟩: ∃k,i=l1.length+k:=⟨i-l1.length,ω⟩
  rw[eG,←hl,←iB,mv rfl,FW ω]
  simp only[AE]
  exact h2 k ω
theorem pF.take{w:World}{M:Nat→Prop}{e:Ty}{cs:List Value}{l:List e.den}(h:pF w M e cs l){n:Nat}(hn:l.length*e.size≤n):pF w M e (cs.take n) l:=by
 intro i hi
 have:=eC (s:=e.size) hi
 rw[rT,rU,ik ω]
 exact h i hi
theorem pF.more{w:World}{M:Nat→Prop}{e:Ty}{cs cs':List Value}{l:List e.den}(h:pF w M e cs l)(hl:l.length*e.size≤cs.length):pF w M e (cs++cs') l:=by
 intro i hi
 have:=eC (s:=e.size) hi
 rw[w9 ω,yH (by rw[eg];omega)]
 exact h i hi
theorem pF.cg{w w':World}{M M':Nat→Prop}(k:fI w M w' M'){e:Ty}{cs:List Value}{l:List e.den}(h:pF w M e cs l):pF w' M' e cs l:=λi hi=>(h i hi).cg k
theorem Rd.arr{w:World}{M:Nat→Prop}{n:Nat}{e:Ty}{cs:List Value}{x:(Ty.arr n e).den}:Rd w M (.arr n e) cs x↔ℓ x=n∧cs.length=n*e.size∧pF w M e cs x:=by
 constructor
 ·intro h
  have hl:=h.length
  have h':=h
  simp only[Rd]at h'
  refine⟨h'.1,hl,λi hi=> ?_⟩
  have:=h.idx (i:=i) ω
  rw[lK x i e.zero hi]at this
  exact this
 ·rintro⟨hn,hl,hr⟩
  simp only[Rd]
  refine⟨hn,(List.range n).map λi=>(cs.drop (i*e.size)).take e.size,by simp,?_,λi hi nZ=> ?_⟩
  ·
   have key: ∀m (l:List Value),l.length=m*e.size→l=((List.range m).map λi=>(l.drop (i*e.size)).take e.size).flatten:=by
    intro m
    induction m with
    |zero=>intro l hl;simpa using hl
    |succ m ih=>
     intro l hl
     have h1:(l.take (m*e.size)).length=m*e.size:=by rw[bZ,hl,eG];omega
     have h2:=ih (l.take (m*e.size)) h1
     rw[Gb,dj,List.flatten_append]
     have h3:((List.range m).map λi=>(l.drop (i*e.size)).take e.size)=(List.range m).map λi=>((l.take (m*e.size)).drop (i*e.size)).take e.size:=by
      apply pP
      intro i hi
      have:=eC (s:=e.size) (rV.1 hi)
      rw[rT,rU,ik ω]
     rw[h3,←h2]
     simp only[bQ,gM,AN,List.flatten_nil,cw]
     rw[iy (l:=l.drop (m*e.size)) (by rw[eg,hl,eG];omega),gL]
   exact key n cs hl
  ·simp only[List.getElem_map,F6]
   exact hr i hi
theorem pW{α:Type}{r:α}{υ:Ty}{y:υ.den}: ∀{p:List Step} {τ:Ty} {x:τ.den} {k:τ.den→Option α},wP υ y p τ x k=some r→
  ∃z,k z=some r∧Jd p τ=υ∧(zo p τ→cI p τ+υ.size≤τ.size)∧ ∀(w:World) (M:Nat→Prop) cs cs',zo p τ→Rd w M τ cs x→Rd w M υ cs' y→Rd w M τ (eM cs (cI p τ) cs') z
 |[],τ,x,k,h=>by
  obtain⟨e,h⟩:=bx (h:cL υ τ y k=some r)
  subst e
  refine⟨y,h,rfl,λ_=>by simp[cI],λw M cs cs' _ hr eQ=> ?_⟩
  unfold eM
  rw[show cI [] υ=0 from rfl,gm,eQ.length,←hr.length]
  simpa using eQ
 | .iD n::p,τ,x,k,h=>by
  obtain⟨υ',y',o,k',hf,hm,hk⟩:=kZ (h:fT τ x n _ k=some r)
  obtain⟨z',Au,ht,I1,kB⟩:=pW (p:=p) (τ:=υ') (x:=y') (k:=k') hm
  obtain⟨x',oW,zQ,Vs⟩:=hk z' r Au
  obtain⟨h1,h2⟩:=hf.eq
  subst h1 h2
  refine⟨x',oW,ht,λhi=>by have:=hf.bound;have:=I1 hi;simp only[cI];omega,λw M cs cs' hi hr eQ=> ?_⟩
  have I1:=I1 hi
  have h3:=kB w M _ cs' hi (hf.rd hr) eQ
  have h4:=Vs w M cs _ hr h3
  have hb:=hf.bound
  have hlc:=hr.length
  have hl2:=eQ.length
  have hl3:=h3.length
  have ka:cI p (tb τ n)+cs'.length≤((cs.drop (gA τ n)).take (tb τ n).size).length:=by
   rw[bZ,eg];omega
  have:eM cs (gA τ n) (eM ((cs.drop (gA τ n)).take (tb τ n).size) (cI p (tb τ n)) cs')=eM cs (gA τ n+cI p (tb τ n)) cs':=by
   have e1:cs=cs.take (gA τ n)++(((cs.drop (gA τ n)).take (tb τ n).size)++cs.drop (gA τ n+(tb τ n).size)):=by
    rw[←iB,gL,gL]
   have eU:(cs.take (gA τ n)).length=gA τ n:=by rw[bZ];omega
   conv=>rhs;rw[e1]
   rw[show gA τ n+cI p (tb τ n)=(cs.take (gA τ n)).length+cI p (tb τ n)from by rw[eU],yK,A7 ka]
   generalize eM ((cs.drop (gA τ n)).take (tb τ n).size) (cI p (tb τ n)) cs'=m at hl3 ⊢
   unfold eM
   rw[hl3,bE]
  simp only[cI]
  rw[←this]
  exact h4
 | .idx i::p,τ,x,k,h=>by
  cases τ with
  |arr n e=>
   obtain⟨z',Au,ht,I1,kB⟩:=pW (p:=p) (τ:=e) (x:=γ x i e.zero) (k:=λz=>k (List.set x i z)) h
   refine⟨_,Au,ht,λhi=>by
    obtain⟨⟨n',e',he,ka⟩,nZ⟩:=hi
    cases he
    have:=I1 nZ
    have hm:=eC (s:=e.size) ka
    simp only[cI,elT,Ty.size];omega,λw M cs cs' hi hr eQ=> ?_⟩
   obtain⟨⟨n',e',he,ka⟩,nZ⟩:=hi
   cases he
   have h3:=kB w M _ cs' nZ (hr.idx ka) eQ
   obtain⟨hn,hlc,JX⟩:=Rd.arr.1 hr
   have hm:=eC (s:=e.size) ka
   have h4:=JX.set (by rw[hlc,hn];exact aH _) (i:=i) ω h3
   have hl2:=eQ.length
   have hl3:=h3.length
   have hch:((cs.drop (i*e.size)).take e.size).length=e.size:=by rw[bZ,eg];omega
   have I1:=I1 nZ
   have avi:cI p e+cs'.length≤((cs.drop (i*e.size)).take e.size).length:=ω
   have:eM cs (i*e.size) (eM ((cs.drop (i*e.size)).take e.size) (cI p e) cs')=eM cs (i*e.size+cI p e) cs':=by
    have e1:cs=cs.take (i*e.size)++(((cs.drop (i*e.size)).take e.size)++cs.drop (i*e.size+e.size)):=by
     rw[←iB,gL,gL]
    have eU:(cs.take (i*e.size)).length=i*e.size:=by rw[bZ];omega
    conv=>rhs;rw[e1]
    rw[show i*e.size+cI p e=(cs.take (i*e.size)).length+cI p e from by rw[eU],yK,A7 avi]
    generalize eM ((cs.drop (i*e.size)).take e.size) (cI p e) cs'=m at hl3 ⊢
    unfold eM
    rw[hl3,bE]
   simp only[cI,elT]
   rw[←this]
   refine Rd.arr.2 ⟨by rw[bN];exact hn,?_,h4⟩
   rw[eI (by rw[hl3];omega)];exact hlc
  |_=>simp[wP,Fl]at h
theorem Rd.ao2{w:World}{M:Nat→Prop}{τ υ:Ty}{cs:List Value}{x:τ.den}(e:τ=υ)(h:Rd w M τ cs x):Rd w M υ cs (e▸x):=by subst e;exact h
theorem Gx{α:Type}{r:α}{e:Ty}{l:List e.den}: ∀{τ:Ty} {n:Nat} {z:τ.den} {k:τ.den→Option α},fT τ z n (fun υ' _ k'=>cL (.slice e) υ' l k') k=some r→
  ∃x,k x=some r∧fT τ z n (fun υ' _ k'=>cL (.slice e) υ' l k') some=some x∧vu τ x n (fun υ y=>cL υ (.slice e) y some)=some l∧ ∀l':List e.den,∃z0,
   (∀(β:Type) (k':τ.den→Option β),fT τ x n (fun υ' _ k'=>cL (.slice e) υ' l' k') k'=k' z0)∧ ∀(β:Type) (k':τ.den→Option β),fT τ z n (fun υ' _ k'=>cL (.slice e) υ' l' k') k'=k' z0
 | .pair a b,0,z,k,h=>by
  have h1:cL (.slice e) a l (λw=>k (w,z.2))=some r:=h
  obtain⟨e1,h2⟩:=bx h1
  clear h1 h
  subst e1
  exact⟨_,h2,by simp[fT,cL],by simp[vu,cL],λl'=>⟨(l',z.2),λβ k'=>by simp[fT,cL],λβ k'=>by simp[fT,cL]⟩⟩
 | .pair a b,n+1,z,k,h=>by
  obtain⟨x,h1,h0,h2,h3⟩:=Gx (τ:=b) (n:=n) (z:=z.2) (k:=λw=>k (z.1,w)) h
  refine⟨(z.1,x),h1,?_,h2,λl'=> ?_⟩
  ·obtain⟨z0,h4,h5⟩:=h3 l
   have h6:=h5 _ some
   rw[h0]at h6
   cases h6
   exact h5 _ λw=>some (z.1,w)
  obtain⟨z0,h4,h5⟩:=h3 l'
  exact⟨(z.1,z0),λβ k'=>h4 β λw=>k' (z.1,w),λβ k'=>h5 β λw=>k' (z.1,w)⟩
 | .int _,_,_,_,h| .bool,_,_,_,h| .str,_,_,_,h| .slice _,_,_,_,h| .unit,_,_,_,h| .arr _ _,_,_,_,h=>by simp[fT]at h
end VM
end
section
namespace VM
open Go
variable{P:Program}{E:Env}{o:Oper}{a:Act}{w:World}{M:Nat→Prop}{ν:Nat→Value}{σ:St}{c:Ctx}{α:Type}{r:α}{next:Act→World→Prop}{Q:Exit→Act→World→Prop}
theorem a6{v:Value}{w':World}(h:(execOp a.eval o).run P w= .ok (.value v) w')(hn:next (a.put o.dst v) w'):o.wp P a w next Q:=by
 unfold Oper.wp Oper.upon;rw[h];exact hn
theorem oZ{w':World}(h:(execOp a.eval o).run P w= .ok .skip w')(hn:next (a.put o.dst undef) w'):o.wp P a w next Q:=by
 unfold Oper.wp Oper.upon;rw[h];exact hn
def fK(c:Ctx)(σ:St)(a:Act)(o:Oper)(w:World)(M:Nat→Prop)(ν:Nat→Value)(K:g7 α)(r:α)(next:Act→World→Prop):Prop:=
 ∀v rd ups v' w' M' ν',K v rd ups=some r→Tr c σ.H w M ν (c0 σ.H ups) w' M' ν'→VR w' M' (c0 σ.H ups) ν' v v'→next (a.put o.dst v') w'
theorem Core.ev(h:Core c σ a.tmps w M ν)(x:Operand):VR w M σ.H ν (σ.ρ x) (a.eval x):=h.op a.defers x
theorem n7{x:bA}{k:IntKind→Int→Option α}(h:wQ x k=some r): ∃(i:IntKind) (n:Int),x= .val (.int i) n∧k i n=some r:=by
 unfold wQ at h
 split at h
 ·exact⟨_,_,rfl,h⟩
 ·cases h
theorem VR.int{H:Nat→Option br}{k:IntKind}{n:Int}{v:Value}(h:VR w M H ν (.val (.int k) n) v):v= .int k n:=by
 simp only[VR,V,Ty.isAgg,jM,fC,Rd,fQ,fB]at h;exact h
theorem VR.bool{H:Nat→Option br}{b:Bool}{v:Value}(h:VR w M H ν (.val .bool b) v):v= .bool b:=by
 simp only[VR,V,Ty.isAgg,jM,fC,Rd,fQ,fB]at h;exact h
theorem VR.str{H:Nat→Option br}{b:ByteArray}{v:Value}(h:VR w M H ν (.val .str b) v):v= .string b:=by
 simp only[VR,V,Ty.isAgg,jM,fC,Rd,fQ,fB]at h;exact h
theorem VR.mkInt{H:Nat→Option br}(k:IntKind)(n:Int):VR w M H ν (.val (.int k) n) (.int k n):=by simp[VR,V,Ty.isAgg,Rd]
theorem VR.vz{H:Nat→Option br}(b:Bool):VR w M H ν (.val .bool b) (.bool b):=by simp[VR,V,Ty.isAgg,Rd]
theorem VR.mkStr{H:Nat→Option br}(b:ByteArray):VR w M H ν (.val .str b) (.string b):=by simp[VR,V,Ty.isAgg,Rd]
theorem TU(hc:Core c σ a.tmps w M ν){x:Operand}(ho:o.op= .move x∨o.op= .assign x){K:g7 α}(h:K (σ.ρ x) [] []=some r)(hn:fK c σ a o w M ν K r next):o.wp P a w next Q:=by
 have hr:(execOp a.eval o).run P w= .ok (.value (a.eval x)) w:=by
  rcases ho with ho|ho
  ·simp[execOp,ho]
  ·simp[execOp,ho]
 exact a6 hr (hn _ _ _ _ _ _ _ h (.refl hc.mem) (hc.ev x))
theorem ab4(hc:Core c σ a.tmps w M ν){x y z:Operand}(ho:o.op= .pick x y z){K:g7 α}{t:Bool}(hx:σ.ρ x= .val .bool t)(h:cond t (K (σ.ρ y) [] []) (K (σ.ρ z) [] [])=some r)
  (hn:fK c σ a o w M ν K r next):o.wp P a w next Q:=by
 have hv:=hc.ev x
 rw[hx]at hv
 refine a6 (NW ho hv.bool) ?_
 cases t
 ·exact hn _ _ _ _ _ _ _ h (.refl hc.mem) (hc.ev z)
 ·exact hn _ _ _ _ _ _ _ h (.refl hc.mem) (hc.ev y)
theorem mB{H:Nat→Option br}{id:Nat}{e:br}{K:Option α}(h:sf H id e K=some r):H id=none∧K=some r:=by
 unfold sf at h
 split at h
 ·rename_i h';exact⟨h',h⟩
 ·cases h
theorem VR.aiO{H:Nat→Option br}{id:Nat}{τ:Ty}{x:τ.den}{b:Nat}(bg:H id=some (.obj τ x))(hν:ν id= .pointer (some ⟨b,0,none⟩)):VR w M H ν (.jE id []) (.pointer (some ⟨b,0,none⟩)):=by
 simp only[VR]
 exact⟨_,bg,trivial,b,hν,rfl⟩
theorem VR.X7{H:Nat→Option br}{id:Nat}{τ:Ty}{x:τ.den}{q:List Step}{j b:Nat}(bg:H id=some (.gk τ x q j))(hν:ν id= .pointer (some ⟨b,0,none⟩)):VR w M H ν (.jE id []) (.pointer (some ⟨b,0,none⟩)):=by
 simp only[VR]
 exact⟨_,bg,trivial,b,hν,rfl⟩
theorem fD(τ:Ty):(ck τ τ.cC).cells.toList=τ.cC:=Jc (Rd.zero default (λ_=>False) τ)
theorem NX: ∀{τ:Ty} {n:Nat} {a:Ty},A3 τ n=some a→ ∃l m,τ.cC=l++(a.cC++m)∧l.length=gA τ n:=by
 intro τ
 induction τ with
 |pair a b _ X6=>
  intro n c h
  cases n with
  |zero=>cases h;exact⟨[],b.cC,rfl,rfl⟩
  |succ n=>
   obtain⟨l,m,h1,h2⟩:=X6 (n:=n) (a:=c) h
   refine⟨a.cC++l,m,by simp only[Ty.cC];rw[h1,bE],?_⟩
   rw[aS,h2,(Rd.zero default (λ_=>False) a).length];rfl
 |_=>intro n c h;simp[A3]at h
theorem Bc: ∀{p:List Step} {τ υ:Ty},gj p τ υ=true→ ∃l m,τ.cC=l++(υ.cC++m)∧l.length=cI p τ
 |[],τ,υ,h=>by
  have h:=bt h
  subst h
  exact⟨[],[],by simp,rfl⟩
 | .iD n::p,τ,υ,h=>by
  unfold gj at h
  split at h
  ·rename_i a ha
   obtain⟨l,m,h1,h2⟩:=NX ha
   obtain⟨l',m',h3,h4⟩:=Bc h
   obtain⟨_,_,hf⟩:=n0 ha τ.zero
   have:=hf.eq.1
   subst this
   refine⟨l++l',m'++m,by rw[h1,h3];simp,?_⟩
   rw[aS,h2,h4];rfl
  ·cases h
 | .idx _::_,_,_,h=>by simp[gj]at h
theorem Cz{p:List Step}{τ e:Ty}(h:gj p τ (.slice e)=true):τ.cC[cI p τ]? =some (.slice none 0 0):=by
 obtain⟨l,m,h1,h2⟩:=Bc h
 rw[h1,pz ω,h2,uH];rfl
theorem cB{b:Bool}{K:Option α}(h:cond b K none=some r):b=true∧K=some r:=by
 cases b
 ·cases h
 ·exact⟨rfl,h⟩
theorem Lu{τ:Ty}{q:List Step}{e:Ty}(h:lkT E τ=some (q,e)):gj q τ (.slice e)=true:=by
 unfold lkT at h
 split at h
 ·rename_i υ q' e' _ _
  cases hd:decide (υ=τ)<;>rw[hd]at h
  ·cases h
  ·simp only[ak]at h
   cases hp:gj q' τ (.slice e')<;>rw[hp]at h
   ·cases h
   ·cases h;exact hp
 ·cases h
theorem sm{τ:Ty}{id:Nat}{q:List Step}{e:Ty}(h:Jb E τ id=some (q,e)):gj q τ (.slice e)=true:=by
 unfold Jb at h
 split at h
 ·exact Lu (cB h).2
 ·cases h
theorem Gy{H:Nat→Option br}{id:Nat}{τ:Ty}{x:τ.den}{q:List Step}{e:Ty}{K:g7 α}(h:EK H id τ x q e K=some r):H id=none∧H (id+1)=none∧K (.jE id []) [id,id+1] [(id,some (.gk τ x q (id+1))),(id+1,some (.own e []))]=some r:=by
 unfold EK at h
 obtain⟨h1,h⟩:=mB h
 obtain⟨h2,h⟩:=mB h
 exact⟨h1,h2,h⟩
theorem Vu{H:Nat→Option br}{i j:Nat}{u v:Option br}(h:i≠j):cn (cn H i u) j v=cn (cn H j v) i u:=by
 funext k
 by_cases hi:k=i
 ·subst hi;rw[az _ _ h,ay,ay]
 ·by_cases hj:k=j
  ·subst hj;rw[ay,az _ _ hi,ay]
  ·rw[az _ _ hj,az _ _ hi,az _ _ hi,az _ _ hj]
theorem zT{H:Nat→Option br}{i:Nat}{u v:Option br}:cn (cn H i u) i v=cn H i v:=by
 funext k
 by_cases hi:k=i
 ·subst hi;rw[ay,ay]
 ·rw[az _ _ hi,az _ _ hi,az _ _ hi]
theorem Tr.X8{H:Nat→Option br}(h:Mem c H w M ν){id k:Nat}(hk:H k=none){τ:Ty}{x:τ.den}(bg:H id=some (.obj τ x)){b:Nat}{cs:Array Value}{t:TypeId}(hb:ν id= .pointer (some ⟨b,0,none⟩))(hg:w.heap[b]? =some (.cells cs t (0,0)))
  {q:List Step} {e:Ty} (hq:gj q τ (.slice e)=true) {ad:Option Addr} (hz:cs.toList[cI q τ]? =some (.slice ad 0 0)):
  Tr c H w M ν (c0 H [(id,some (.gk τ x q k)),(k,some (.own e []))]) w M (updν ν k (.slice ad 0 0)):=by
 have kq:k≠id:=λe=>by rw[e,bg]at hk;cases hk
 have h2:=Tr.nothing h hk e ad
 have hd2:cn H k (some (.own e [])) id=some (.obj τ x):=by rw[az _ _ (fc kq)];exact bg
 have hν:updν ν k (.slice ad 0 0) id= .pointer (some ⟨b,0,none⟩):=by unfold updν;rw[ah (fc kq)];exact hb
 have hν1:updν ν k (.slice ad 0 0) k= .slice ad 0 0:=by simp[updν]
 have he:=h2.mem.jY id _ hd2
 simp only[ER]at he
 obtain⟨b',cs',t',eX,hg',hM,kB⟩:=he
 rw[hν]at eX;cases eX
 rw[hg]at hg';cases hg'
 have h3:=Tr.Jf h2.mem hd2 trivial (e':= .gk τ x q k) trivial rfl (λ_ _=>by simp) (by
   rw[hν];simp only[ER]
   exact⟨_,cs,t,cs.toList,.slice ad 0 0,rfl,hg,hM,kB,(Gn hz).symm,rfl,e,hq⟩)
  (fun τ' x' p' j' hl=>by
   cases hl
   refine⟨by rw[ay];simp,_,hν,?_⟩
   rw[hν1,cell_of hg,←iz];exact hz)
 rw[Vu (i:=k) (j:=id) kq]at h3
 exact h2.trans h3
theorem Tr.EK{H:Nat→Option br}(h:Mem c H w M ν){id:Nat}(bg:H id=none)(qz:H (id+1)=none)(t:TypeId){τ:Ty}{cs:Array Value}{x:τ.den}(hr:Rd w M τ cs.toList x){q:List Step}{e:Ty}(hq:gj q τ (.slice e)=true){ad:Option Addr}
  (hz:cs.toList[cI q τ]? =some (.slice ad 0 0)):
  ∃M' ν',Tr c H w M ν (c0 H [(id,some (.gk τ x q (id+1))),(id+1,some (.own e []))]) (w.alloc (.cells cs t)) M' ν'∧ν' id= .pointer (some ⟨w.heap.size,0,none⟩):=by
 have h1:=Tr.var h bg t hr
 have h2:=Tr.X8 h1.mem (id:=id) (k:=id+1) (by rw[az _ _ ω];exact qz) (ay _ _ _) (by simp[updν]) (Gr w _) hq hz
 have e1:c0 (cn H id (some (.obj τ x))) [(id,some (.gk τ x q (id+1))),(id+1,some (.own e []))]=c0 H [(id,some (.gk τ x q (id+1))),(id+1,some (.own e []))]:=by
  show cn (cn (cn H id _) id _) (id+1) _=cn (cn H id _) (id+1) _
  rw[zT]
 rw[e1]at h2
 exact⟨_,_,h1.trans h2,by simp[updν]⟩
theorem X9(hE:EnvTy P E)(hc:Core c σ a.tmps w M ν){t:TypeId}(ho:o.op= .alloc t){K:g7 α}{τ:Ty}(ht:E.ty t=some τ){id:Nat}
  (h:(match Jb E τ id with
   |some (q,e)=>EK σ.H id τ τ.zero q e K
   |none=>sf σ.H id (.obj τ τ.zero) (K (.jE id []) [id] [(id,some (.obj τ τ.zero))]))=some r) (hn:fK c σ a o w M ν K r next):o.wp P a w next Q:=by
 obtain⟨i,hi,hs,hz,_⟩:=(hE.ty t τ ht).base
 have hr:Rd w M τ (ck τ τ.cC).cells.toList τ.zero:=by rw[fD];exact Rd.zero w M τ
 split at h
 ·rename_i q e qP
  obtain⟨bg,qz,h⟩:=Gy h
  obtain⟨M',ν',gy,hν⟩:=Tr.EK hc.mem bg qz t hr (sm qP) (by rw[fD];exact Cz (sm qP))
  refine a6 (Ba ho hi hz w) (hn _ _ _ _ _ M' ν' h gy ?_)
  exact VR.X7 (by show cn _ (id+1) _ id=_;rw[az _ _ ω,ay]) hν
 ·obtain⟨bg,h⟩:=mB h
  refine a6 (Ba ho hi hz w) (hn _ _ _ _ _ _ _ h (Tr.var hc.mem bg t hr) (VR.aiO (ay _ _ _) (by simp[updν])))
theorem TV(hE:EnvTy P E)(hc:Core c σ a.tmps w M ν){t:TypeId}{x:Operand}(ho:o.op= .box t x){K:g7 α}{τ:Ty}{id:Nat}
  (h:m1 true (σ.ρ x) σ.H τ (λy rd ups=>sf σ.H id (.obj τ y) (K (.jE id []) (id::rd) (ups++[(id,some (.obj τ y))])))=some r) (hn:fK c σ a o w M ν K r next):o.wp P a w next Q:=by
 obtain⟨y,rd,ups,M',h,gy,hV,hz,_⟩:=kY (.refl _) hc.mem (hc.ev x) h
 obtain⟨bg,h⟩:=mB h
 have aj5:c0 σ.H ups id=none:=hz.none bg
 have xF:=gy.trans (Tr.var gy.mem aj5 t hV.cells)
 refine a6 (Gs ho w) (hn _ _ _ _ _ (λb=>M' b∨b=w.heap.size) (updν ν id (.pointer (some ⟨w.heap.size,0,none⟩))) h ?_ ?_)
 ·rw[fJ];exact xF
 ·rw[fJ];exact VR.aiO (ay _ _ _) (by simp[updν])
theorem aj6(hE:EnvTy P E)(hc:Core c σ a.tmps w M ν){t:TypeId}{x:Operand}(ho:o.op= .box t x){K:g7 α}{τ:Ty}{id:Nat}
  (h:(match Jb E τ id,σ.ρ x with
   |some ([.iD m],e),.Ln υ y n=>cond (Nat.beq m n) (cL υ τ y λy=>EK σ.H id τ y [.iD m] e K) (m1 true (σ.ρ x) σ.H τ (λy rd ups=>sf σ.H id (.obj τ y) (K (.jE id []) (id::rd) (ups++[(id,some (.obj τ y))]))))
   |_,_=>m1 true (σ.ρ x) σ.H τ (λy rd ups=>sf σ.H id (.obj τ y) (K (.jE id []) (id::rd) (ups++[(id,some (.obj τ y))]))))=some r) (hn:fK c σ a o w M ν K r next):o.wp P a w next Q:=by
 split at h
 ·rename_i m e υ y n qP hx
  cases hb:Nat.beq m n
  ·rw[hb]at h
   exact TV hE hc ho h hn
  ·rw[hb]at h
   have CA:=fy hb
   subst CA
   simp only[ak]at h
   obtain⟨e1,h⟩:=bx h
   subst e1
   obtain⟨bg,qz,h⟩:=Gy h
   have hv:=hc.ev x
   rw[hx]at hv
   simp only[VR]at hv
   obtain⟨hV,cs,ad,hva,hz⟩:=hv
   have uj:(a.eval x).cells.toList=cs.toList:=by rw[hva];rfl
   obtain⟨M',ν',gy,hν⟩:=Tr.EK hc.mem bg qz t hV.cells (sm qP) (ad:=ad) (by rw[uj];simpa [cI]using hz)
   refine a6 (Gs ho w) (hn _ _ _ _ _ M' ν' h gy ?_)
   exact VR.X7 (by show cn _ (id+1) _ id=_;rw[az _ _ ω,ay]) hν
 ·exact TV hE hc ho h hn
theorem vA{i:Int}{n:Nat}(h:bc i n=true):0≤i∧i<(n:Int):=by rw[X1]at h;simpa using h
theorem ns{b:Bool}{K:Option α}(h:cond b none K=some r):b=false∧K=some r:=by
 cases b
 ·exact⟨rfl,h⟩
 ·cases h
theorem DP(hm:Mem c σ.H w M ν){x:bA}{u:Value}(hv:VR w M σ.H ν x u){K:(υ:Ty)→υ.den→List Nat→Option α}(h:lW x σ.H K=some r):
  ∃υ y rd,K υ y rd=some r∧ ∃b off cs,u= .pointer (some ⟨b,off,none⟩)∧At w b off cs∧Rd w M υ cs y:=by
 unfold lW at h
 split at h
 ·simp only[VR]at hv
  obtain⟨b,off,rfl,_,_,cs,ha,hr⟩:=hv
  exact⟨_,_,_,h,b,off,cs,rfl,ha,hr⟩
 ·rename_i id p
  simp only[VR]at hv
  obtain⟨e,he,lO⟩:=hv
  have mg:=hm.jY id e he
  rw[he]at h
  cases e with
  |obj τ x=>
   obtain⟨υ,y,o',hp,hK⟩:=kX h
   simp only[AR]at lO
   obtain⟨hi,b,hb,rfl⟩:=lO
   simp only[ER]at mg
   obtain⟨b',cs,t,eX,hg,_,hr⟩:=mg
   rw[hb]at eX;cases eX
   have:=hp.eq.2
   subst this
   exact⟨υ,y,_,hK,b,_,_,rfl,At.of_block hg _ _,hp.rd hi hr⟩
  |own e l=>
   simp only[AR]at lO
   obtain⟨i,q,rfl,zB,hi,b,n,cp,hb,rfl⟩:=lO
   obtain⟨υ,y,o',hp,hK⟩:=kX h
   simp only[ER]at mg
   rcases mg with⟨rfl,_⟩|⟨b',cs,t,cap,eX,hg,_,TW,hl,Fs,hs,hr⟩
   ·simp at zB
   ·rw[hb]at eX;cases eX
    have:=hp.eq.2
    subst this
    have h1:=hr i zB
    rw[←lK l i e.zero zB]at h1
    have h2:=hp.rd hi h1
    have h3:=hp.bound hi
    rw[rT,iB,rU,ik ω]at h2
    exact⟨υ,y,_,hK,b,_,_,rfl,At.of_block hg _ _,h2⟩
  |pD e l=>
   simp only[AR]at lO
   obtain⟨i,q,rfl,zB,hi,b,n,cp,hb,rfl⟩:=lO
   obtain⟨υ,y,o',hp,hK⟩:=kX h
   simp only[ER]at mg
   have kB:=mg.1
   simp only[Rd,fQ,fB]at kB
   obtain⟨a0,cap,ha0,_,hr⟩:=kB
   obtain⟨b',off,rfl,_,_,cs,pE,hrr⟩:=hr i zB
   rw[hb]at ha0;cases ha0
   have:=hp.eq.2
   subst this
   rw[gm]at pE
   have ao5:Rd w M e cs (γ l i e.zero):=by rw[lK l i e.zero zB];exact hrr
   have h2:=hp.rd hi ao5
   have h3:=hp.bound hi
   have hlc:=ao5.length
   refine⟨υ,y,_,hK,b,_,_,rfl,?_,h2⟩
   intro j v hj
   rw[mS]at hj
   split at hj
   ·rw[mT]at hj
    have:=pE _ v hj
    rwa [←pS]at this
   ·cases hj
  |gk _ _ _ _=>cases h
  |gone=>cases h
 ·cases h
theorem Mem.linked{H:Nat→Option br}(hm:Mem c H w M ν){id:Nat}{τ:Ty}{x:τ.den}{q:List Step}{j:Nat}(bg:H id=some (.gk τ x q j)):
  ∃b cs t kb e,ν id= .pointer (some ⟨b,0,none⟩)∧w.heap[b]? =some (.cells cs t (0,0))∧M b∧Rd w M τ kb x∧cs.toList=eM kb (cI q τ) [ν j]∧(ν j).oneCell'=true∧gj q τ (.slice e)=true∧cI q τ<kb.length∧H j≠none:=by
 have mg:=hm.jY id _ bg
 simp only[ER]at mg
 obtain⟨b,cs,t,kb,u,hb,hg,hM,hr,uj,h1,e,hq⟩:=mg
 obtain⟨hj,b',eX,TX⟩:=hm.gk id _ _ _ _ bg
 rw[hb]at eX;cases eX
 obtain⟨y,o,hp⟩:=uP hq x
 have eU:cI q τ<kb.length:=by
  have:=hp.bound (lL hq).1
  have h2:=hp.eq.2
  have h3:=hr.length
  have:(Ty.slice e).size=1:=rfl
  omega
 have hu:u=ν j:=by
  rw[cell_of hg,←iz,uj,yL eU]at TX
  exact mw TX
 subst hu
 exact⟨b,cs,t,kb,e,hb,hg,hM,hr,uj,h1,hq,eU,hj⟩
theorem zU{H:Nat→Option br}(hm:Mem c H w M ν){id:Nat}{τ:Ty}{x:τ.den}{q:List Step}{j:Nat}(bg:H id=some (.gk τ x q j)){k:τ.den→jF→Option α}(h:EJ j q τ x H k=some r):
  ∃z ups M',k z ups=some r∧Tr c H w M ν (c0 H ups) w M' ν∧Fz H (c0 H ups)∧((∃e l,H j=some (.pD e l)∧ups=[])∨ ∃e l,H j=some (.own e l)∧ups=[(j,some (.pD e l))])∧ ∃b cs t,ν id= .pointer (some ⟨b,0,none⟩)∧w.heap[b]? =some (.cells cs t (0,0))∧M' b∧Rd w M' τ cs.toList z:=by
 obtain⟨b,cs,t,kb,e0,hb,hg,hM,hr,uj,h1,hq,eU,hj⟩:=hm.linked bg
 have R9:=(lL hq).1
 unfold EJ at h
 split at h
 ·rename_i e l Bd
  obtain⟨z,hz,DQ,I1,so⟩:=pW h
  obtain⟨M',gy,hV,hM'⟩:=Tr.freeze hm Bd
  refine⟨z,_,M',hz,gy,λi=> ?_,.inr ⟨e,l,Bd,rfl⟩,b,cs,t,hb,hg,?_,?_⟩
  ·by_cases hi:i=j
   ·subst hi;exact .inr ⟨e,l,Bd,ay _ _ _⟩
   ·exact .inl (az _ _ hi)
  ·refine(hM' b).2 ⟨hM,λhjb=> ?_⟩
   have kq:j≠id:=λe=>by rw[e,bg]at Bd;cases Bd
   exact hm.A8 j id _ _ b kq Bd trivial bg trivial hjb (by rw[hb];rfl)
  ·rw[uj]
   exact so w M' kb [ν j] R9 (hr.cg gy.cg) (V.slice.1 hV)
 ·rename_i e l Bd
  obtain⟨z,hz,DQ,I1,so⟩:=pW h
  have mg:=hm.jY j _ Bd
  simp only[ER]at mg
  refine⟨z,_,M,hz,.refl hm,.refl H,.inl ⟨e,l,Bd,rfl⟩,b,cs,t,hb,hg,hM,?_⟩
  rw[uj]
  exact so w M kb [ν j] R9 hr mg.1
 ·cases h
theorem aoh{τ υ:Ty}{t:TypeId}(hE:EnvTy P E)(ht:E.ty t=some τ)(h:gj ([]:List Step) υ τ=true):υ=τ:=bt h
theorem Rd.aj7{e:Ty}{v:Value}{cs:List Value}{l:List e.den}(h:Rd w M (.slice e) cs l): ∃a n cap,cs=[.slice a n cap]:=by
 simp only[Rd]at h
 obtain⟨a,cap,rfl,_⟩:=h
 exact⟨a,_,cap,rfl⟩
theorem Jh{ρ:Operand→Value}{t:TypeId}{x:Operand}(ho:o.op= .load t x){τ:Ty}(h:kW P τ t)(ha:τ.isAgg=false){b off:Nat}{v:Value}(hx:ρ x= .pointer (some ⟨b,off,none⟩))(hc:w.cell? ⟨b,off,none⟩=some v):
  (execOp ρ o).run P w= .ok (.value v) w:=by
 have:(loadVar t ⟨b,off,none⟩).run P w= .ok v w:=by
  simp[loadVar,rE h,ha,load,Sem.run,hc]
 simp[execOp,ho,hx,Instr.loadAt,Instr.sureAddr,this]
theorem NY(hE:EnvTy P E)(hc:Core c σ a.tmps w M ν){t:TypeId}{x:Operand}(ho:o.op= .load t x){K:g7 α}{τ:Ty}(ht:E.ty t=some τ)
  (h:lW (σ.ρ x) σ.H (fun υ y rd=>cL υ τ y λz=>K (.val τ z) rd [])=some r) (hn:fK c σ a o w M ν K r next):o.wp P a w next Q:=by
 obtain⟨υ,y,rd,h,b,off,cs,hu,pE,hr⟩:=DP hc.mem (hc.ev x) h
 obtain⟨e,h⟩:=bx h
 subst e
 refine a6 (xD ho (hE.ty t _ ht) hu pE hr) (hn _ _ _ _ _ _ _ h (.refl hc.mem) ?_)
 simp only[VR]
 exact V.ck hr
theorem TY(hE:EnvTy P E)(hc:Core c σ a.tmps w M ν){t:TypeId}{x:Operand}(ho:o.op= .load t x){K:g7 α}{τ:Ty}(ht:E.ty t=some τ)
  (h:uM τ (σ.ρ x) σ.H K=some r) (hn:fK c σ a o w M ν K r next):o.wp P a w next Q:=by
 unfold uM at h
 simp only at h
 split at h
 ·rename_i id p hx
  split at h
  ·rename_i υ z q j bg
   have hv:=hc.ev x
   rw[hx]at hv
   simp only[VR]at hv
   obtain⟨e1,Gz,lO⟩:=hv
   rw[bg]at Gz;cases Gz
   simp only[AR]at lO
   obtain⟨hi,b,hb,hu⟩:=lO
   obtain⟨b',cs,te,kb,e0,eX,hg,hM,hr,uj,h1,hq,eU,hj⟩:=hc.mem.linked bg
   rw[hb]at eX;cases eX
   cases hp:Nc p q
   ·rw[hp]at h
    cases EM:zj p q
    ·
     rw[EM]at h
     simp only[av]at h
     obtain⟨υ',y,o',zp,h⟩:=kX h
     obtain⟨e2,h⟩:=bx h
     subst e2
     have hap:=zp.apart hi hq EM
     have ho':=zp.eq.2
     subst ho'
     have I1:=zp.bound hi
     have hlen:=hr.length
     have kB:Rd w M υ' ((cs.toList.drop (cI p υ)).take υ'.size) y:=by
      rw[uj,Fp (by simp only[aK];omega) (by simp only[aK];omega)]
      exact zp.rd hi hr
     refine a6 (xD ho (hE.ty t _ ht) hu (At.of_block hg _ _) kB) (hn _ _ _ _ _ M ν h (.refl hc.mem) ?_)
     simp only[VR]
     exact V.ck kB
    ·
     rw[EM]at h
     simp only[av,ak]at h
     obtain⟨z',ups,M',h,gy,_,_,b2,TZ,t2,vk,Ya,Lv,zV⟩:=zU hc.mem bg h
     rw[hb]at vk;cases vk
     rw[hg]at Ya;cases Ya
     obtain⟨υ',y,o',zp,h⟩:=kX h
     obtain⟨e2,h⟩:=bx h
     subst e2
     have ho':=zp.eq.2
     subst ho'
     have kB:=zp.rd hi zV
     refine a6 (xD ho (hE.ty t _ ht) hu (At.of_block hg _ _) kB) (hn _ _ _ _ _ M' ν h gy ?_)
     simp only[VR]
     exact V.ck kB
   ·
    rw[hp]at h
    have:=zS hp
    subst this
    simp only[ak]at h
    obtain⟨hpq,hK⟩:=cB h
    have hτ:τ= .slice e0:=(lL hpq).2.symm.trans (lL hq).2
    subst hτ
    have TX:w.cell? ⟨b,cI p υ,none⟩=some (ν j):=by rw[cell_of hg,←iz,uj,yL eU]
    refine a6 (Jh ho (hE.ty t _ ht) rfl hu TX) (hn _ _ _ _ _ M ν hK (.refl hc.mem) ?_)
    simp only[VR]
    exact⟨hj,trivial⟩
  ·exact NY hE hc ho ht h hn
 ·exact NY hE hc ho ht h hn
theorem zW{τ:Ty}{n:Nat}(h:vy τ n=true): ∃e,gj [.iD n] τ (.slice e)=true∧A3 τ n=some (.slice e):=by
 unfold vy at h
 split at h
 ·rename_i e he
  exact⟨e,by simp[gj,he],he⟩
 ·cases h
theorem rF{τ:Ty}{n:Nat}{e:Ty}(h:gj [.iD n] τ (.slice e)=true):vy τ n=true:=by
 unfold gj at h
 unfold vy
 split at h
 ·rename_i a ha
  rw[ha]
  rw[show a= .slice e from bt h]
 ·cases h
theorem GA{τ:Ty}{n:Nat}(h:vy τ n=true):τ.isAgg=true:=by
 cases τ<;>first|rfl|(simp[vy,A3]at h)
theorem Yb(hE:EnvTy P E)(hc:Core c σ a.tmps w M ν){t:TypeId}{x:Operand}(ho:o.op= .load t x){K:g7 α}{τ:Ty}(ht:E.ty t=some τ)
  (h:A5 E τ (σ.ρ x) σ.H K=some r) (hn:fK c σ a o w M ν K r next):o.wp P a w next Q:=by
 unfold A5 at h
 split at h
 ·rename_i id Vv hx
  split at h
  ·rename_i υ z n j bg
   obtain⟨e,h⟩:=bx h
   subst e
   obtain⟨b,cs,te,kb,e0,hb,hg,hM,hr,uj,h1,hq,eU,hj⟩:=hc.mem.linked bg
   have hv:=hc.ev x
   rw[hx]at hv
   simp only[VR]at hv
   obtain⟨e1,Gz,lO⟩:=hv
   rw[bg]at Gz;cases Gz
   simp only[AR]at lO
   obtain⟨hi,b',eX,hu⟩:=lO
   rw[hb]at eX;cases eX
   have hl:cs.toList.length=υ.size:=by rw[uj,eI (by simp only[aK];omega),hr.length]
   refine a6 (Gu (P:=P) (cs:=cs.toList) ho (hE.ty t _ ht) (GA (rF hq)) hu ?_ hl) (hn (.Ja υ z n j) _ [] _ _ M ν h (.refl hc.mem) ?_)
   ·have:=At.of_block hg 0 cs.toList.length
    rw[cQ,ij]at this
    exact this
   ·simp only[VR]
    exact⟨_,kb,rfl,hr,by simpa [cI]using uj,hj,rF hq⟩
  ·exact TY hE hc ho ht h λv rd ups v' w' M' ν' h1 h2 h3=>hn v (id::rd) ups v' w' M' ν' h1 h2 h3
 ·exact TY hE hc ho ht h hn
end VM
end
section
namespace VM
open Go
variable{P:Program}{E:Env}{o:Oper}{a:Act}{w:World}{M:Nat→Prop}{ν:Nat→Value}{σ:St}{c:Ctx}{α:Type}{r:α}{next:Act→World→Prop}{Q:Exit→Act→World→Prop}
theorem Fz.own{H H1:Nat→Option br}(h:Fz H H1){i:Nat}{e:Ty}{l:List e.den}(hi:H i=some (.own e l)):H1 i=some (.own e l)∨H1 i=some (.pD e l):=by
 rcases h i with h'|⟨e',l',h1,h2⟩
 ·exact .inl (by rw[h',hi])
 ·rw[hi]at h1;cases h1;exact .inr h2
theorem Vw(hE:EnvTy P E)(hc:Core c σ a.tmps w M ν){t:TypeId}{x y:Operand}(ho:o.op= .store t x y){K:g7 α}{τ:Ty}(ht:E.ty t=some τ)
  (h:m3 τ (σ.ρ x) (σ.ρ y) σ.H K=some r) (hn:fK c σ a o w M ν K r next):o.wp P a w next Q:=by
 unfold m3 at h
 split at h
 ·rename_i id p hx
  obtain⟨z,rd,ups,M',h,gy,hV,hz,kB⟩:=kY (.refl _) hc.mem (hc.ev y) h
  have hv:=hc.ev x
  rw[hx]at hv
  have hvz:=VR.cg gy.cg gy.goes hv
  have zq:=hE.ty t τ ht
  have Ft:=hV.cells.length
  rw[bk]at Ft
  split at h
  ·rename_i υ x0 bg
   have qz:=hz.obj bg
   obtain⟨x1,hK,DQ,I1,so⟩:=pW h
   simp only[VR]at hvz
   obtain⟨e1,Gz,lO⟩:=hvz
   rw[qz]at Gz;cases Gz
   simp only[AR]at lO
   obtain⟨hi,b,hb,hu⟩:=lO
   have mg:=gy.mem.jY id _ qz
   simp only[ER]at mg
   obtain⟨b',cs,te,eX,hg,hM,hr⟩:=mg
   rw[hb]at eX;cases eX
   have I1:=I1 hi
   have hlc:=hr.length
   rw[bk]at hlc
   have dF:=lN (P:=P) ho zq hu hg Ft ω hV.cells.lJ
   rw[bk]at dF
   have xF:Tr c (c0 σ.H ups) w M' ν (cn (c0 σ.H ups) id (some (.obj υ x1))) (w.setRow b (eM cs.toList (cI p υ) (a.eval y).cells.toList).toArray) M' ν:=by
    refine Tr.write (e':= .obj υ x1) gy.mem qz trivial trivial rfl (by rw[hb];rfl) hg λNh hk xG=> ?_
    simp only[ER]
    refine⟨b,_,te,hb,setRow_heap w b cs _ te _ hg,xG,?_⟩
    exact(so w M' cs.toList _ hi hr hV.cells).cg hk
   refine oZ dF ?_
   refine hn _ _ _ _ _ M' ν hK ?_ (by simp[VR])
   rw[fJ]
   have:=gy.trans xF
   unfold eM at this
   rw[bk]at this
   exact this
  ·rename_i e l bg
   split at h
   ·rename_i i q h0
    obtain⟨Be,h⟩:=ns h
    have qz:c0 σ.H ups id=some (.own e l):=by rw[kB id Be];exact bg
    obtain⟨y1,hK,DQ,I1,so⟩:=pW h
    simp only[VR]at hvz
    obtain⟨e1,Gz,lO⟩:=hvz
    rw[qz]at Gz;cases Gz
    simp only[AR]at lO
    obtain⟨i',q',hpq,zB,hi,b,n,cp,hb,hu⟩:=lO
    cases hpq
    have mg:=gy.mem.jY id _ qz
    simp only[ER]at mg
    rcases mg with⟨rfl,_⟩|⟨b',cs,te,cap,eX,hg,hM,TW,hl,Fs,hs,hr⟩
    ·simp at zB
    ·rw[hb]at eX;cases eX
     have I1:=I1 hi
     have ui:=eC (s:=e.size) zB
     have yO:l.length*e.size≤cp*e.size:=kz _ hl
     have dF:=lN (P:=P) ho zq hu hg Ft ω hV.cells.lJ
     rw[bk]at dF
     have hri:=hr i zB
     rw[←lK l i e.zero zB]at hri
     have oO:=so w M' _ _ hi hri hV.cells
     have hch:((cs.toList.drop (i*e.size)).take e.size).length=e.size:=hri.length
     have ab6:eM cs.toList (i*e.size) (eM ((cs.toList.drop (i*e.size)).take e.size) (cI q e) (a.eval y).cells.toList)=eM cs.toList (i*e.size+cI q e) (a.eval y).cells.toList:=by
      have hl3:=oO.length
      have e1:cs.toList=cs.toList.take (i*e.size)++(((cs.toList.drop (i*e.size)).take e.size)++cs.toList.drop (i*e.size+e.size)):=by
       rw[←iB,gL,gL]
      have eU:(cs.toList.take (i*e.size)).length=i*e.size:=by rw[bZ,bk];omega
      conv=>rhs;rw[e1]
      rw[show i*e.size+cI q e=(cs.toList.take (i*e.size)).length+cI q e from by rw[eU],yK,A7 (by rw[hch,bk];omega)]
      generalize eM ((cs.toList.drop (i*e.size)).take e.size) (cI q e) (a.eval y).cells.toList=m at hl3 ⊢
      unfold eM
      rw[hl3,bE]
     have xF:Tr c (c0 σ.H ups) w M' ν (cn (c0 σ.H ups) id (some (.own e (List.set l i y1)))) (w.setRow b (eM cs.toList (i*e.size+cI q e) (a.eval y).cells.toList).toArray) M' ν:=by
      refine Tr.write (e':= .own e (List.set l i y1)) gy.mem qz trivial trivial ⟨rfl,by rw[bN]⟩ (by rw[hb];simp[fv];omega) hg λNh hk xG=> ?_
      simp only[ER]
      refine .inr ⟨b,_,te,cp,by rw[bN];exact hb,setRow_heap w b cs _ te _ hg,xG,TW,by rw[bN];exact hl,Fs,?_,?_⟩
      ·rw[←ab6,jf,eI (by rw[oO.length,bk];omega),bk];exact hs
      ·have h9:cs.toList.length=cp*e.size:=by rw[bk,hs]
       have h10:=pF.set (w:=w) (M:=M') (cs:=cs.toList) (l:=l) hr (by rw[h9];exact yO) zB oO
       rw[ab6]at h10
       exact λj hj=>(h10 j hj).cg hk
     refine oZ dF ?_
     refine hn _ _ _ _ _ M' ν hK ?_ (by simp[VR])
     rw[fJ]
     have:=gy.trans xF
     unfold eM at this
     rw[bk]at this
     exact this
   ·cases h
  ·cases h
 ·cases h
theorem Fz.gk{H H1:Nat→Option br}(h:Fz H H1){i:Nat}{τ:Ty}{x:τ.den}{p:List Step}{j:Nat}(hi:H i=some (.gk τ x p j)):H1 i=some (.gk τ x p j):=by
 rcases h i with h'|⟨e',l',h1,h2⟩
 ·rw[h',hi]
 ·rw[hi]at h1;cases h1
theorem zX{β:Type}{l a:List β}{o:Nat}(hl:o+a.length≤l.length)(i:Nat):(eM l o a)[i]? =if o≤i∧i<o+a.length then a[i-o]? else l[i]? :=by
 unfold eM
 by_cases h1:i<o
 ·rw[ah ω,bE,tA (by simp;omega),mS,aj h1]
 ·by_cases h2:i<o+a.length
  ·rw[aj ω,tA (by simp;omega),pz (by simp;omega)]
   simp[ik (show o≤l.length by omega)]
  ·rw[ah ω,pz (by simp;omega)]
   simp only[aS,bZ,ik (show o≤l.length by omega),mT]
   congr 1;omega
theorem NZ{β:Type}{l a b:List β}{o o':Nat}(h:o'≤o∧o+a.length≤o'+b.length)(h1:o+a.length≤l.length)(h2:o'+b.length≤l.length):eM (eM l o a) o' b=eM l o' b:=by
 have l1:=eI (a:=l) (o:=o) (new:=a) h1
 apply AO
 intro i
 rw[zX ω,zX ω,zX ω]
 by_cases c1:o'≤i∧i<o'+b.length
 ·rw[aj c1,aj c1]
 ·rw[ah c1,ah c1,ah ω]
theorem uR{β:Type}{l:List β}{o:Nat}{u v:β}(h:o<l.length):eM (eM l o [u]) o [v]=eM l o [v]:=
 NZ (by simp) (by simp;omega) (by simp;omega)
theorem N0{β:Type}{l a b:List β}{o o':Nat}(h:o+a.length≤o'∨o'+b.length≤o)(h1:o+a.length≤l.length)(h2:o'+b.length≤l.length):eM (eM l o a) o' b=eM (eM l o' b) o a:=by
 have l1:=eI (a:=l) (o:=o) (new:=a) h1
 have l2:=eI (a:=l) (o:=o') (new:=b) h2
 apply AO
 intro i
 rw[zX ω,zX ω,zX ω,zX ω]
 by_cases c1:o'≤i∧i<o'+b.length
 ·rw[aj c1,ah ω,aj c1]
 ·rw[ah c1]
  by_cases c2:o≤i∧i<o+a.length
  ·rw[aj c2,aj c2]
  ·rw[ah c2,ah c2,ah c1]
theorem N1{m:(υ:Ty)→υ.den→(υ.den→Option α)→Option α}: ∀{τ:Ty} {x:τ.den} {n:Nat} {k:τ.den→Option α},fT τ x n m k=some r→ ∃υ y o k',DL τ x n υ y o∧m υ y k'=some r:=λh=>by
 obtain⟨υ,y,o,k',h1,h2,_⟩:=kZ h
 exact⟨υ,y,o,k',h1,h2⟩
theorem GB{υ:Ty}{u:υ.den}: ∀{p:List Step} {τ:Ty} {x:τ.den} {k:τ.den→Option α},wP υ u p τ x k=some r→ ∃y o,Lr p τ x υ y o
 |[],τ,x,k,h=>by
  obtain⟨e,_⟩:=bx (h:cL υ τ u k=some r)
  subst e
  exact⟨x,0,.nil x⟩
 | .iD n::p,τ,x,k,h=>by
  obtain⟨υ',y,o,k',hf,hm⟩:=N1 (h:fT τ x n _ k=some r)
  obtain⟨y',o',hp⟩:=GB (k:=k') hm
  exact⟨y',_,.iD hf hp⟩
 | .idx i::p,τ,x,k,h=>by
  cases τ with
  |arr n e=>
   obtain⟨y',o',hp⟩:=GB (p:=p) (τ:=e) (x:=γ x i e.zero) (k:=λz=>k (List.set x i z)) h
   exact⟨y',_,.idx hp⟩
  |_=>simp[wP,Fl]at h
theorem JY: ∀{p q:List Step} {τ e:Ty},zj p q=true→gj q τ (.slice e)=true→cI p τ≤cI q τ∧cI q τ+1≤cI p τ+(Jd p τ).size
 |[],q,τ,e,_,hq=>by
  obtain⟨_,_,zp⟩:=uP hq τ.zero
  have:=zp.bound (lL hq).1
  have h2:=zp.eq.2
  have:(Ty.slice e).size=1:=rfl
  simp only[cI,Jd]
  omega
 | .iD a::p,.iD b::q,τ,e,hp,hq=>by
  simp only[zj,bM]at hp
  have:=fy hp.1
  subst this
  unfold gj at hq
  split at hq
  ·rename_i c hc
   obtain⟨_,_,hf⟩:=n0 hc τ.zero
   have:=hf.eq.1
   subst this
   have:=JY hp.2 hq
   simp only[cI,Jd]
   omega
  ·cases hq
 | .iD _::_,[],_,_,hp,_| .iD _::_,.idx _::_,_,_,hp,_| .idx _::_,_,_,_,hp,_=>by simp[zj]at hp
theorem ER.Vx{H:Nat→Option br}(hm:Mem c H w M ν){k:Nat}{e:Ty}{l:List e.den}(hk:H k=some (.own e l)): ∃ad cp,ν k= .slice ad l.length cp:=by
 have:=hm.jY k _ hk
 simp only[ER]at this
 rcases this with⟨rfl,a,hv⟩|⟨b,cs,t,cap,hv,_⟩
 ·exact⟨a,0,hv⟩
 ·exact⟨_,cap,hv⟩
theorem GC(hE:EnvTy P E)(hc:Core c σ a.tmps w M ν){t:TypeId}{x y:Operand}(ho:o.op= .store t x y){K:g7 α}{τ:Ty}(ht:E.ty t=some τ){id k:Nat}{q:List Step}{e:Ty}{υ:Ty}{z:υ.den}
  (hx:σ.ρ x= .jE id q) (hy:σ.ρ y= .ref k) {en:br} (bg:σ.H id=some en) (hen:en.mut) (Bf:en.lM (.gk υ z q k)) (hq:gj q υ (.slice e)=true)
  (mC: ∃b cs te kb u,ν id= .pointer (some ⟨b,0,none⟩)∧w.heap[b]? =some (.cells cs te (0,0))∧Rd w M υ kb z∧cs.toList=eM kb (cI q υ) [u])
  (h:DJ τ id k e q υ z σ.H K=some r) (hn:fK c σ a o w M ν K r next):o.wp P a w next Q:=by
 unfold DJ at h
 split at h
 ·rename_i e' l hk
  obtain⟨e1,h1⟩:=dX h
  clear h
  subst e1
  obtain⟨e2,h2⟩:=dX h1
  clear h1
  subst e2
  obtain⟨z',hK,DQ,I1,so⟩:=pW h2
  obtain⟨b,cs,te,kb,u,hb,hg,hr,uj⟩:=mC
  have R9:=(lL hq).1
  obtain⟨ad,cp,hνk⟩:=ER.Vx hc.mem hk
  have Bh:=hc.ev y
  rw[hy]at Bh
  simp only[VR]at Bh
  have Bh:=Bh.2
  have I1:=I1 R9
  have hlen:=hr.length
  have Ni:(Ty.slice e').size=1:=rfl
  have eU:cI q υ<kb.length:=ω
  have Ft:cs.toList.length=kb.length:=by rw[uj];exact eI (by simp;omega)
  have hv:=hc.ev x
  rw[hx]at hv
  simp only[VR]at hv
  obtain⟨e3,he3,lO⟩:=hv
  rw[bg]at he3;cases he3
  have lO:=lO.lM Bf
  simp only[AR]at lO
  obtain⟨_,b',eX,hu⟩:=lO
  rw[hb]at eX;cases eX
  have hyc:(a.eval y).cells.toList=[ν k]:=by rw[Bh,hνk];rfl
  have qQ:(a.eval y).cells.size=(Ty.slice e').size:=by rw[←bk,hyc];rfl
  have dF:=lN (P:=P) ho (hE.ty t _ ht) hu hg qQ (by rw[←bk];omega) (by rw[hyc,hνk];simp[Value.oneCell'])
  have oO:(cs.toList.take (cI q υ)++(a.eval y).cells.toList++cs.toList.drop (cI q υ+(a.eval y).cells.toList.length))=eM kb (cI q υ) [ν k]:=by
   rw[hyc]
   show eM cs.toList (cI q υ) [ν k]=_
   rw[uj,uR eU]
  rw[oO]at dF
  have hrz:Rd w M υ (eM kb (cI q υ) [.slice none 0 0]) z':=so w M kb [.slice none 0 0] R9 hr (Rd.zero w M (.slice e'))
  have gy:Tr c σ.H w M ν (cn σ.H id (some (.gk υ z' q k))) (w.setRow b (eM kb (cI q υ) [ν k]).toArray) M ν:=by
   refine Tr.write (e':= .gk υ z' q k) hc.mem bg hen trivial (by cases en<;>simp only[br.lM]at Bf ⊢ <;>exact Bf) (by rw[hb];rfl) hg (λNh Bi xG=> ?_) (fun τ' x' p' j' hl=> ?_)
   ·simp only[ER]
    refine⟨b,_,te,eM kb (cI q υ) [.slice none 0 0],ν k,hb,setRow_heap w b cs _ te _ hg,xG,hrz.cg Bi,?_,by rw[hνk];rfl,e',hq⟩
    rw[uR eU]
   ·cases hl
    refine⟨by rw[hk];simp,b,hb,?_⟩
    rw[cell_of (setRow_heap w b cs _ te _ hg),←iz]
    show(eM kb (cI q υ) [ν k])[cI q υ]? =_
    rw[yL eU]
  exact oZ dF (hn _ _ _ _ _ M ν hK gy (by simp[VR]))
 ·cases h
theorem GD(hE:EnvTy P E)(hc:Core c σ a.tmps w M ν){t:TypeId}{x y:Operand}(ho:o.op= .store t x y){K:g7 α}{τ:Ty}(ht:E.ty t=some τ)
  (h:kU E τ (σ.ρ x) (σ.ρ y) σ.H K=some r) (hn:fK c σ a o w M ν K r next):o.wp P a w next Q:=by
 have hold:m3 τ (σ.ρ x) (σ.ρ y) σ.H K=some r→o.wp P a w next Q:=λh=>Vw hE hc ho ht h hn
 unfold kU at h
 simp only at h
 split at h
 ·rename_i id p hx
  have oW:=hx
  split at h
  ·rename_i υ z bg
   split at h
   ·rename_i q e k qP hy
    cases hp:Nc p q
    ·rw[hp]at h;exact hold h
    ·rw[hp]at h
     simp only[ak]at h
     have:=zS hp
     subst this
     have hq:=sm qP
     have mg:=hc.mem.jY id _ bg
     simp only[ER]at mg
     obtain⟨b,cs,te,hb,hg,hM,hr⟩:=mg
     have eU:cI p υ<cs.toList.length:=by
      obtain⟨_,_,zp⟩:=uP hq z
      have:=zp.bound (lL hq).1
      have h2:=zp.eq.2
      have:=hr.length
      have:(Ty.slice e).size=1:=rfl
      omega
     refine GC hE hc ho ht hx hy bg trivial rfl hq ⟨b,cs,te,cs.toList,cs.toList[cI p υ],hb,hg,hr,?_⟩ h hn
     exact(Gn (bo eU)).symm
   ·exact hold h
  ·rename_i υ z q j bg
   obtain⟨b,cs,te,kb,e0,hb,hg,hM,hr,uj,h1,hq,eU,hj⟩:=hc.mem.linked bg
   have Bj:m1 true (σ.ρ y) σ.H τ (λy rd ups=>wP τ y p υ z λz=>K .any (id::rd) (ups++[(id,some (cond (zj p q) (.obj υ z) (.gk υ z q j)))]))=some r→o.wp P a w next Q:=by
    intro h
    obtain⟨u,rd,ups,M',h,gy,hV,hz,kB⟩:=kY (.refl _) hc.mem (hc.ev y) h
    have qz:=hz.gk bg
    have hv:=hc.ev x
    rw[hx]at hv
    have hvz:=VR.cg gy.cg gy.goes hv
    simp only[VR]at hvz
    obtain⟨e1,Gz,lO⟩:=hvz
    rw[qz]at Gz;cases Gz
    simp only[AR]at lO
    obtain⟨hi,b1,nr,hu⟩:=lO
    rw[hb]at nr;cases nr
    obtain⟨b2,TZ,te2,cs3,e3,vk,Ya,Lv,zV,ab8,h12,hq2,ao7,hj2⟩:=gy.mem.linked qz
    rw[hb]at vk;cases vk
    rw[hg]at Ya;cases Ya
    obtain⟨z',hK,DQ,I1,so⟩:=pW h
    have I1:=I1 hi
    have hlc:=zV.length
    have Ft:cs.toList.length=cs3.length:=by rw[ab8];exact eI (by simp;omega)
    have hcy:=hV.cells.length
    rw[bk]at hcy
    have aCu:(a.eval y).cells.toList.length=τ.size:=by rw[bk];exact hcy
    have dF:=lN (P:=P) ho (hE.ty t _ ht) hu hg hcy (by rw[←bk];omega) hV.cells.lJ
    have N2:cs.toList.take (cI p υ)++(a.eval y).cells.toList++cs.toList.drop (cI p υ+(a.eval y).cells.toList.length)=eM cs.toList (cI p υ) (a.eval y).cells.toList:=rfl
    rw[N2]at dF
    have hzr:=so w M' cs3 _ hi zV hV.cells
    have fin: ∀e',e'.mut→br.lM (.gk υ z q j) e'→K .any (id::rd) (ups++[(id,some e')])=some r→(∀Nh,fI w M' (w.setRow b (eM cs.toList (cI p υ) (a.eval y).cells.toList).toArray) Nh→Nh b→ER (w.setRow b (eM cs.toList (cI p υ) (a.eval y).cells.toList).toArray) Nh (ν id) e')→
      (∀τ' x' p' j',e'= .gk τ' x' p' j'→(c0 σ.H ups) j'≠none∧ ∃b',ν id= .pointer (some ⟨b',0,none⟩)∧(w.setRow b (eM cs.toList (cI p υ) (a.eval y).cells.toList).toArray).cell? ⟨b',cI p' τ',none⟩=some (ν j'))→o.wp P a w next Q:=by
     intro e' jt IZ hK Vr qP
     have xF:=Tr.write (e':=e') gy.mem qz trivial jt IZ (by rw[hb];rfl) hg Vr qP
     refine oZ dF (hn _ _ _ _ _ M' ν hK ?_ (by simp[VR]))
     rw[fJ]
     exact gy.trans xF
    cases EM:zj p q
    ·rw[EM]at hK
     simp only[av]at hK
     obtain⟨yy,oo,zp⟩: ∃y o,Lr p υ z τ y o:=GB h
     have hap:=zp.apart hi hq EM
     have hoo:=zp.eq.2
     subst hoo
     have aiR:eM cs.toList (cI p υ) (a.eval y).cells.toList=eM (eM cs3 (cI p υ) (a.eval y).cells.toList) (cI q υ) [ν j]:=by
      rw[ab8]
      exact N0 (by simp only[aK];omega) (by simp only[aK];omega) ω
     have hl3:=eI (a:=cs3) (o:=cI p υ) (new:=(a.eval y).cells.toList) ω
     refine fin (.gk υ z' q j) trivial rfl hK (λNh hk xG=> ?_) (fun τ' x' p' j' hl=> ?_)
     ·simp only[ER]
      exact⟨b,_,te,_,ν j,hb,setRow_heap w b cs _ te _ hg,xG,hzr.cg hk,aiR,h1,e0,hq⟩
     ·cases hl
      refine⟨hj2,b,hb,?_⟩
      rw[cell_of (setRow_heap w b cs _ te _ hg),←iz]
      show(eM cs.toList (cI p υ) (a.eval y).cells.toList)[cI q υ]? =_
      rw[aiR,yL ω]
    ·rw[EM]at hK
     simp only[ak]at hK
     refine fin (.obj υ z') trivial rfl hK (λNh hk xG=> ?_) (fun τ' x' p' j' hl=>by cases hl)
     simp only[ER]
     refine⟨b,_,te,hb,setRow_heap w b cs _ te _ hg,xG,?_⟩
     show Rd _ _ υ (eM cs.toList (cI p υ) (a.eval y).cells.toList) z'
     have ka:=JY EM hq
     rw[DQ]at ka
     have ho:eM cs.toList (cI p υ) (a.eval y).cells.toList=eM cs3 (cI p υ) (a.eval y).cells.toList:=by
      rw[ab8]
      exact NZ (by simp only[aK];omega) (by simp only[aK];omega) ω
     have h9:=hzr.cg hk
     rw[←ho]at h9
     exact h9
   split at h
   ·rename_i q' e k qP hy
    cases hp:(Nc p q&&Nc q q')
    ·rw[hp]at h;exact Bj h
    ·rw[hp]at h
     simp only[ak]at h
     rw[bM]at hp
     have:=zS hp.1
     subst this
     have:=zS hp.2
     subst this
     refine GC hE hc ho ht hx hy bg trivial rfl (sm qP) ⟨b,cs,te,kb,ν j,hb,hg,hr,uj⟩ h hn
   ·exact Bj h
  ·exact hold h
 ·exact hold h
theorem Vy(hE:EnvTy P E)(hc:Core c σ a.tmps w M ν){t:TypeId}{x y:Operand}(ho:o.op= .store t x y){K:g7 α}{τ:Ty}(ht:E.ty t=some τ)
  (h:ue E τ (σ.ρ x) (σ.ρ y) σ.H K=some r) (hn:fK c σ a o w M ν K r next):o.wp P a w next Q:=by
 unfold ue at h
 split at h
 ·rename_i id υ z n hx hy
  split at h
  ·rename_i m e qP
   cases CA:Nat.beq m n
   ·rw[CA]at h
    simp only[av]at h
    exact GD hE hc ho ht h hn
   ·rw[CA]at h
    simp only[ak]at h
    have CA:=fy CA
    subst CA
    obtain⟨e1,h1⟩:=dX h
    clear h
    subst e1
    have hq:=sm qP
    have Bh:=hc.ev y
    rw[hy]at Bh
    simp only[VR]at Bh
    obtain⟨hV,cs,ad,hva,hz⟩:=Bh
    have hcy:(a.eval y).cells=cs:=by rw[hva];rfl
    obtain⟨en,bg,hen,hK⟩: ∃en:br,σ.H id=some en∧(∃z0,en= .obj τ z0∨ ∃q j,en= .gk τ z0 q j)∧σ.H (id+2)=none∧K .any [id,id+2] [(id,some (.gk τ z [.iD m] (id+2))),(id+2,some (.own e []))]=some r:=by
     unfold mc at h1
     split at h1
     ·rename_i υ z0 bg
      obtain⟨e2,h2⟩:=dX h1
      clear h1
      subst e2
      obtain⟨h3,h4⟩:=mB h2
      exact⟨_,bg,⟨z0,.inl rfl⟩,h3,h4⟩
     ·rename_i υ z0 q j bg
      obtain⟨e2,h2⟩:=dX h1
      clear h1
      subst e2
      obtain⟨h3,h4⟩:=mB h2
      exact⟨_,bg,⟨z0,.inr ⟨q,j,rfl⟩⟩,h3,h4⟩
     ·cases h1
     ·cases h1
     ·cases h1
    obtain⟨hk,hK⟩:=hK
    have aka:en.mut:=by rcases hen with⟨z0,rfl|⟨q,j,rfl⟩⟩<;>trivial
    have Bf:en.lM (.obj τ z):=by rcases hen with⟨z0,rfl|⟨q,j,rfl⟩⟩<;>rfl
    obtain⟨b,kb,te,hb,hg,qQ⟩: ∃b kb te,ν id= .pointer (some ⟨b,0,none⟩)∧w.heap[b]? =some (.cells kb te (0,0))∧kb.toList.length=τ.size:=by
     rcases hen with⟨z0,rfl|⟨q,j,rfl⟩⟩
     ·have:=hc.mem.jY id _ bg
      simp only[ER]at this
      obtain⟨b,kb,te,h2,h3,_,h5⟩:=this
      exact⟨b,kb,te,h2,h3,h5.length⟩
     ·obtain⟨b,kb,te,zY,_,h2,h3,_,h5,h6,_,_,h7,_⟩:=hc.mem.linked bg
      refine⟨b,kb,te,h2,h3,?_⟩
      rw[h6,eI (by simp only[aK];omega),h5.length]
    have hv:=hc.ev x
    rw[hx]at hv
    simp only[VR]at hv
    obtain⟨e3,he3,lO⟩:=hv
    rw[bg]at he3;cases he3
    have lO:=lO.lM Bf
    simp only[AR]at lO
    obtain⟨_,b',eX,hu⟩:=lO
    rw[hb]at eX;cases eX
    have Ft:=hV.cells.length
    have dF:=lN (P:=P) ho (hE.ty t _ ht) hu hg (by rw[←bk];exact Ft) (by rw[←bk,qQ];simp[cI]) hV.cells.lJ
    have N2:kb.toList.take (cI [] τ)++(a.eval y).cells.toList++kb.toList.drop (cI [] τ+(a.eval y).cells.toList.length)=(a.eval y).cells.toList:=by
     simp only[cI,my,cM,gm]
     rw[jL ω,cw]
    rw[N2]at dF
    have so:=setRow_heap w b kb (a.eval y).cells.toList.toArray te _ hg
    have gy:=Tr.write (e':= .obj τ z) (new:=(a.eval y).cells.toList.toArray) hc.mem bg aka trivial Bf (by rw[hb];rfl) hg (λNh Bi xG=>by
     simp only[ER]
     exact⟨b,_,te,hb,so,xG,hV.cells.cg Bi⟩)
    have kq:id+2≠id:=ω
    have xF:=Tr.X8 gy.mem (id:=id) (k:=id+2) (by rw[az _ _ kq];exact hk) (ay _ _ _) hb so hq (ad:=ad) (by rw[hcy];simpa [cI]using hz)
    have e1:c0 (cn σ.H id (some (.obj τ z))) [(id,some (.gk τ z [.iD m] (id+2))),(id+2,some (.own e []))]=c0 σ.H [(id,some (.gk τ z [.iD m] (id+2))),(id+2,some (.own e []))]:=by
     show cn (cn (cn σ.H id _) id _) (id+2) _=cn (cn σ.H id _) (id+2) _
     rw[zT]
    rw[e1]at xF
    exact oZ dF (hn _ _ _ _ _ _ _ hK (gy.trans xF) (by simp[VR]))
  ·exact GD hE hc ho ht h hn
 ·exact GD hE hc ho ht h hn
theorem Vz(hE:EnvTy P E)(hc:Core c σ a.tmps w M ν){t:TypeId}{x y:Operand}(ho:o.op= .store t x y){K:g7 α}{τ:Ty}(ht:E.ty t=some τ)
  (h:xx E τ (σ.ρ x) (σ.ρ y) σ.H K=some r) (hn:fK c σ a o w M ν K r next):o.wp P a w next Q:=by
 unfold xx at h
 split at h
 ·rename_i id υ z n j hx hy
  split at h
  ·rename_i m e qP
   obtain⟨CA,h0⟩:=cB h
   clear h
   have CA:=fy CA
   subst CA
   obtain⟨e1,h1⟩:=dX h0
   clear h0
   subst e1
   have hq:=sm qP
   have Bh:=hc.ev y
   rw[hy]at Bh
   simp only[VR]at Bh
   obtain⟨cs,kb,hva,hzr,uj,hj,wT⟩:=Bh
   have hcy:(a.eval y).cells=cs:=by rw[hva];rfl
   obtain⟨en,bg,hen,h2⟩: ∃en:br,σ.H id=some en∧(∃z0,en= .obj τ z0∨ ∃q j,en= .gk τ z0 q j)∧(match σ.H j with
    |some (.own e' _)=>jr e' e (K .any [id,j] [(id,some (.gk τ z [.iD m] j))])
    |_=>none)=some r:=by
    unfold mc at h1
    split at h1
    ·rename_i υ z0 bg
     obtain⟨e2,h2⟩:=dX h1
     clear h1
     subst e2
     exact⟨_,bg,⟨z0,.inl rfl⟩,h2⟩
    ·rename_i υ z0 q j bg
     obtain⟨e2,h2⟩:=dX h1
     clear h1
     subst e2
     exact⟨_,bg,⟨z0,.inr ⟨q,j,rfl⟩⟩,h2⟩
    ·cases h1
    ·cases h1
    ·cases h1
   obtain⟨l,Bd,hK⟩: ∃l,σ.H j=some (.own e l)∧K .any [id,j] [(id,some (.gk τ z [.iD m] j))]=some r:=by
    split at h2
    ·rename_i e' l Bd
     obtain⟨e3,h3⟩:=dX h2
     clear h2
     subst e3
     exact⟨l,Bd,h3⟩
    ·cases h2
   have Cx:(ν j).oneCell'=true:=by
    have:=hc.mem.jY j _ Bd
    simp only[ER]at this
    rcases this with⟨_,ad,hv⟩|⟨b,cs,t,cap,hv,_⟩<;>rw[hv]<;>rfl
   have aka:en.mut:=by rcases hen with⟨z0,rfl|⟨q,j,rfl⟩⟩<;>trivial
   have Bf:en.lM (.gk τ z [.iD m] j):=by rcases hen with⟨z0,rfl|⟨q,j,rfl⟩⟩<;>rfl
   obtain⟨b,TZ,te,hb,hg,qQ⟩: ∃b TZ te,ν id= .pointer (some ⟨b,0,none⟩)∧w.heap[b]? =some (.cells TZ te (0,0))∧TZ.toList.length=τ.size:=by
    rcases hen with⟨z0,rfl|⟨q,j,rfl⟩⟩
    ·have:=hc.mem.jY id _ bg
     simp only[ER]at this
     obtain⟨b,kb,te,h2,h3,_,h5⟩:=this
     exact⟨b,kb,te,h2,h3,h5.length⟩
    ·obtain⟨b,kb,te,zY,_,h2,h3,_,h5,h6,_,_,h7,_⟩:=hc.mem.linked bg
     refine⟨b,kb,te,h2,h3,?_⟩
     rw[h6,eI (by simp only[aK];omega),h5.length]
   have hv:=hc.ev x
   rw[hx]at hv
   simp only[VR]at hv
   obtain⟨e3,he3,lO⟩:=hv
   rw[bg]at he3;cases he3
   have lO:=lO.lM Bf
   simp only[AR]at lO
   obtain⟨_,b',eX,hu⟩:=lO
   rw[hb]at eX;cases eX
   obtain⟨y0,o0,hf0⟩:=n0 (zW wT).choose_spec.2 z
   have hfb:=hf0.bound
   rw[hf0.eq.2]at hfb
   have Ni:(Ty.slice (zW wT).choose).size=1:=rfl
   rw[Ni]at hfb
   have hl0:=hzr.length
   have eU:gA τ m<kb.length:=ω
   have Ft:cs.toList.length=τ.size:=by rw[uj,eI (by simp only[aK];omega),hl0]
   have akb: ∀v∈cs.toList,v.oneCell'=true:=by
    intro v hv
    rw[uj]at hv
    unfold eM at hv
    simp only[bl,cr]at hv
    rcases hv with(hv|hv)|hv
    ·exact hzr.lJ v (lH hv)
    ·rw[hv];exact Cx
    ·exact hzr.lJ v (mQ hv)
   have dF:=lN (P:=P) ho (hE.ty t _ ht) hu hg (by rw[hcy,←bk];exact Ft) (by rw[←bk,qQ];simp[cI]) (by rw[hcy];exact akb)
   have N2:TZ.toList.take (cI [] τ)++(a.eval y).cells.toList++TZ.toList.drop (cI [] τ+(a.eval y).cells.toList.length)=cs.toList:=by
    rw[hcy]
    simp only[cI,my,cM,gm]
    rw[jL ω,cw]
   rw[N2]at dF
   have so:=setRow_heap w b TZ cs.toList.toArray te _ hg
   have ao8:cI [.iD m] τ=gA τ m:=by simp[cI]
   have gy:=Tr.write (e':= .gk τ z [.iD m] j) (new:=cs.toList.toArray) hc.mem bg aka trivial Bf (by rw[hb];rfl) hg (λNh Bi xG=>by
    simp only[ER]
    exact⟨b,_,te,kb,ν j,hb,so,xG,hzr.cg Bi,by rw[ao8];exact uj,Cx,e,hq⟩) (fun τ' x' p' j' hl=>by
    cases hl
    refine⟨hj,b,hb,?_⟩
    rw[cell_of so,ao8]
    show cs.toList.toArray[gA τ m]? =_
    rw[F2,uj,yL eU])
   exact oZ dF (hn _ _ _ _ _ _ _ hK gy (by simp[VR]))
  ·cases h
 ·exact Vy hE hc ho ht h hn
end VM
end
section
namespace VM
open Go
variable{P:Program}{E:Env}{o:Oper}{a:Act}{w:World}{M:Nat→Prop}{ν:Nat→Value}{σ:St}{c:Ctx}{α:Type}{r:α}{next:Act→World→Prop}{Q:Exit→Act→World→Prop}
theorem nb{n:Nat}(h:Nat.beq n 0=false):n≠0:=by rw[←mU,xn]at h;exact h
theorem At.sub{b off:Nat}{cs:List Value}(h:At w b off cs)(o n:Nat):At w b (off+o) ((cs.drop o).take n):=by
 intro j v hj
 rw[mS]at hj
 split at hj
 ·rw[mT]at hj
  have:=h _ v hj
  rwa [←pS]at this
 ·cases hj
def xH:br→List Step→Option Ty
 | .obj τ _,p=>some (Jd p τ)
 | .gk τ _ _ _,p=>some (Jd p τ)
 | .own e _,.idx _::p| .pD e _,.idx _::p=>some (Jd p e)
 |_,_=>none
theorem GF{id:Nat}{p:List Step}{H:Nat→Option br}{k:Ty→Option α}(h:mc id p H k=some r): ∃e υ,H id=some e∧xH e p=some υ∧k υ=some r:=by
 unfold mc at h
 split at h
 ·rename_i τ x bg
  obtain⟨υ,y,o,hp,hk⟩:=kX h
  exact⟨_,υ,bg,by simp[xH,hp.eq.1],hk⟩
 ·rename_i τ x _ _ bg
  obtain⟨υ,y,o,hp,hk⟩:=kX h
  exact⟨_,υ,bg,by simp[xH,hp.eq.1],hk⟩
 ·rename_i e l bg
  split at h
  ·obtain⟨υ,y,o,hp,hk⟩:=kX h
   exact⟨_,υ,bg,by simp[xH,hp.eq.1],hk⟩
  ·cases h
 ·rename_i e l bg
  split at h
  ·obtain⟨υ,y,o,hp,hk⟩:=kX h
   exact⟨_,υ,bg,by simp[xH,hp.eq.1],hk⟩
  ·cases h
 ·cases h
theorem AR.step{v:Value}{p:List Step}{u:Value}{e:br}{υ:Ty}(h:AR v p u e)(ht:xH e p=some υ)(s:Step)(hs:zo [s] υ):
  ∃b off,u= .pointer (some ⟨b,off,none⟩)∧AR v (p++[s]) (.pointer (some ⟨b,off+cI [s] υ,none⟩)) e:=by
 cases e with
 |obj τ x=>
  simp only[xH,iA]at ht
  simp only[AR]at h ⊢
  obtain⟨hi,b,hb,rfl⟩:=h
  subst ht
  exact⟨b,_,rfl,(tF p [s] τ).2 ⟨hi,hs⟩,b,hb,by rw[tE]⟩
 |gk τ x _ _=>
  simp only[xH,iA]at ht
  simp only[AR]at h ⊢
  obtain⟨hi,b,hb,rfl⟩:=h
  subst ht
  exact⟨b,_,rfl,(tF p [s] τ).2 ⟨hi,hs⟩,b,hb,by rw[tE]⟩
 |own e l=>
  simp only[AR]at h ⊢
  obtain⟨i,q,rfl,zB,hi,b,n,cp,hb,rfl⟩:=h
  simp only[xH,iA]at ht
  subst ht
  exact⟨b,_,rfl,i,q++[s],rfl,zB,(tF q [s] e).2 ⟨hi,hs⟩,b,n,cp,hb,by rw[tE,pS]⟩
 |pD e l=>
  simp only[AR]at h ⊢
  obtain⟨i,q,rfl,zB,hi,b,n,cp,hb,rfl⟩:=h
  simp only[xH,iA]at ht
  subst ht
  exact⟨b,_,rfl,i,q++[s],rfl,zB,(tF q [s] e).2 ⟨hi,hs⟩,b,n,cp,hb,by rw[tE,pS]⟩
 |gone=>simp[xH]at ht
theorem CB(hE:EnvTy P E)(hc:Core c σ a.tmps w M ν){t:TypeId}{x:Operand}{n:Nat}(ho:o.op= .fieldAddr t x n){K:g7 α}{τ:Ty}(ht:E.ty t=some τ){id:Nat}{p:List Step}(hx:σ.ρ x= .jE id p)
  (h:mc id p σ.H (fun υ=>jr υ τ (vu τ τ.zero n fun υ' _=>cond (Nat.beq υ'.size 0) none (K (.jE id (p++[.iD n])) [id] [])))=some r) (hn:fK c σ a o w M ν K r next):o.wp P a w next Q:=by
 obtain⟨e,υ,bg,het,h⟩:=GF h
 obtain⟨he_,h_⟩:=dX h
 clear h
 subst he_
 have h:=h_
 clear h_
 obtain⟨υ',y,of,hf,h⟩:=pV h
 obtain⟨hz,h⟩:=ns h
 have hv:=hc.ev x
 rw[hx]at hv
 simp only[VR]at hv
 obtain⟨e',uw,lO⟩:=hv
 rw[bg]at uw;cases uw
 obtain⟨b,off,hu,akd⟩:=lO.step het (.iD n) trivial
 obtain⟨fs,f,RT,hff,hfo,Fu⟩:=(hE.ty t υ ht).iD hf
 obtain⟨v,dF,hvv⟩:=uQ (P:=P) ho (w:=w) RT hff Fu (nb hz) hu
 refine a6 dF (hn _ _ _ _ _ M ν h (.refl hc.mem) ?_)
 simp only[VR]
 refine⟨e,bg,?_⟩
 rw[hvv,hfo,hf.eq.2]
 simpa [cI]using akd
theorem Bk(hE:EnvTy P E)(hc:Core c σ a.tmps w M ν){t:TypeId}{x:Operand}{n:Nat}(ho:o.op= .fieldAddr t x n){K:g7 α}{τ:Ty}(ht:E.ty t=some τ){υ:Ty}{z:υ.den}(hx:σ.ρ x= .se υ z)
  (h:jr υ τ (vu υ z n fun υ y=>cond (Nat.beq υ.size 0) none (K (.se υ y) [] []))=some r) (hn:fK c σ a o w M ν K r next):o.wp P a w next Q:=by
 obtain⟨he,h1⟩:=dX h
 subst he
 obtain⟨υ',y,of,hf,h⟩:=pV h1
 obtain⟨hz,h⟩:=ns h
 have hv:=hc.ev x
 rw[hx]at hv
 simp only[VR]at hv
 obtain⟨b,off,hu,hb,hM,cs,pE,hr⟩:=hv
 obtain⟨fs,f,RT,hff,hfo,Fu⟩:=(hE.ty t υ ht).iD hf
 obtain⟨v,dF,hvv⟩:=uQ (P:=P) ho (w:=w) RT hff Fu (nb hz) hu
 refine a6 dF (hn _ _ _ _ _ M ν h (.refl hc.mem) ?_)
 simp only[VR]
 exact⟨b,off+f.offset,hvv,hb,hM,_,by rw[hfo];exact pE.sub of υ'.size,hf.rd hr⟩
theorem V.agg{τ:Ty}(ha:τ.isAgg=true){v:Value}{x:τ.den}(h:V w M τ v x): ∃cs,v= .agg cs∧Rd w M τ cs.toList x:=by
 unfold V at h;rw[aj ha]at h;exact h
theorem DL.agg{τ:Ty}{x:τ.den}{n:Nat}{υ:Ty}{y:υ.den}{o:Nat}(h:DL τ x n υ y o):τ.isAgg=true:=by cases h<;>rfl
theorem Yc(hE:EnvTy P E)(hc:Core c σ a.tmps w M ν){t:TypeId}{x:Operand}{n:Nat}(ho:o.op= .field t x n){K:g7 α}{τ:Ty}(ht:E.ty t=some τ){υ:Ty}{z:υ.den}(hx:σ.ρ x= .val υ z)
  (h:jr υ τ (vu υ z n fun υ y=>K (.val υ y) [] [])=some r) (hn:fK c σ a o w M ν K r next):o.wp P a w next Q:=by
 obtain⟨he,h1⟩:=dX h
 subst he
 obtain⟨υ',y,of,hf,h⟩:=pV h1
 have hv:=hc.ev x
 rw[hx]at hv
 simp only[VR]at hv
 obtain⟨cs,hu,hr⟩:=hv.agg hf.agg
 obtain⟨fs,f,RT,hff,hfo,Fu⟩:=(hE.ty t υ ht).iD hf
 have eQ:=hf.rd hr
 refine a6 (Lt ho RT hff Fu hu (by rw[hfo];exact eQ)) (hn _ _ _ _ _ M ν h (.refl hc.mem) ?_)
 simp only[VR]
 rw[hfo]
 exact V.ck eQ
theorem Lw(hE:EnvTy P E)(hc:Core c σ a.tmps w M ν){t:TypeId}{x i:Operand}(ho:o.op= .indexAddr t x i){K:g7 α}{τ:Ty}(ht:E.ty t=some τ)
  (h:hZ τ (σ.ρ x) (σ.ρ i) σ.H K=some r) (hn:fK c σ a o w M ν K r next):o.wp P a w next Q:=by
 unfold hZ at h
 obtain⟨k,n,hi,h2⟩:=n7 h
 clear h
 have h:=h2
 clear h2
 have T0:=hc.ev i
 rw[hi]at T0
 have T0:=T0.int
 have hv:=hc.ev x
 have zq:=hE.ty t τ ht
 split at h
 ·
  rename_i e
  obtain⟨e',RT,hle⟩:=zq.slice
  split at h
  ·rename_i υ l hx
   obtain⟨e1,h⟩:=bx h
   subst e1
   obtain⟨ka,h⟩:=cB h
   obtain⟨h0,h1⟩:=vA ka
   have h1:n<(ℓ l:Int):=h1
   rw[hx]at hv
   simp only[VR]at hv
   have hv:=V.slice.1 hv
   simp only[Rd,fQ,fB]at hv
   obtain⟨ad,cap,hu,ake,hr⟩:=hv
   obtain⟨b,off,rfl,hb,hM,cs,pE,kB⟩:=hr n.toNat ω
   refine a6 (mf ho RT hle hu T0 h0 h1) (hn _ _ _ _ _ M ν h (.refl hc.mem) ?_)
   simp only[VR]
   refine⟨b,_,rfl,hb,hM,cs,pE,?_⟩
   have:Rd w M e cs (γ l n.toNat e.zero):=by rw[lK l n.toNat e.zero ω];exact kB
   exact this
  ·rename_i id hx
   rw[hx]at hv
   simp only[VR]at hv
   obtain⟨_,hu⟩:=hv
   split at h
   ·rename_i e2 l bg
    obtain⟨he_,h_⟩:=dX h
    clear h
    subst he_
    have h:=h_
    clear h_
    obtain⟨ka,h⟩:=cB h
    obtain⟨h0,h1⟩:=vA ka
    have mg:=hc.mem.jY id _ bg
    simp only[ER]at mg
    rcases mg with⟨rfl,_⟩|⟨b,cs,te,cap,hb,hg,hM,TW,hl,Fs,hs,hr⟩
    ·simp at h1;omega
    ·rw[hb]at hu
     refine a6 (mf ho RT hle hu T0 h0 h1) (hn _ _ _ _ _ M ν h (.refl hc.mem) ?_)
     simp only[VR]
     refine⟨_,bg,?_⟩
     simp only[AR]
     exact⟨n.toNat,[],rfl,ω,trivial,b,_,_,hb,by simp[cI]⟩
   ·rename_i e2 l bg
    obtain⟨he_,h_⟩:=dX h
    clear h
    subst he_
    have h:=h_
    clear h_
    obtain⟨ka,h⟩:=cB h
    obtain⟨h0,h1⟩:=vA ka
    have mg:=hc.mem.jY id _ bg
    simp only[ER]at mg
    obtain⟨kB,hhd⟩:=mg
    simp only[Rd,fQ,fB]at kB
    obtain⟨ad,cap,hb,ake,hr⟩:=kB
    rcases hhd with⟨rfl,_⟩|⟨b,n2,c2,vk⟩
    ·simp at h1;omega
    ·rw[hb]at vk;cases vk
     rw[hb]at hu
     refine a6 (mf ho RT hle hu T0 h0 h1) (hn _ _ _ _ _ M ν h (.refl hc.mem) ?_)
     simp only[VR]
     refine⟨_,bg,?_⟩
     simp only[AR]
     exact⟨n.toNat,[],rfl,ω,trivial,b,_,_,hb,by simp[cI]⟩
   ·cases h
  ·cases h
 ·
  rename_i len e
  obtain⟨e',RT,hle⟩:=zq.arr
  split at h
  ·rename_i id p hx
   obtain⟨en,υ,bg,het,h⟩:=GF h
   obtain⟨he_,h_⟩:=dX h
   clear h
   subst he_
   have h:=h_
   clear h_
   obtain⟨ka,h⟩:=cB h
   obtain⟨h0,h1⟩:=vA ka
   rw[hx]at hv
   simp only[VR]at hv
   obtain⟨en',uw,lO⟩:=hv
   rw[bg]at uw;cases uw
   obtain⟨b,off,hu,akd⟩:=lO.step het (.idx n.toNat) ⟨⟨len,e,rfl,ω⟩,trivial⟩
   refine a6 (tG ho RT hle hu T0 h0 h1) (hn _ _ _ _ _ M ν h (.refl hc.mem) ?_)
   simp only[VR]
   refine⟨en,bg,?_⟩
   simpa [cI,elT]using akd
  ·rename_i υ l hx
   obtain⟨e1,h⟩:=bx h
   subst e1
   obtain⟨ka,h⟩:=cB h
   obtain⟨h0,h1⟩:=vA ka
   rw[hx]at hv
   simp only[VR]at hv
   obtain⟨b,off,hu,hb,hM,cs,pE,hr⟩:=hv
   refine a6 (tG ho RT hle hu T0 h0 h1) (hn _ _ _ _ _ M ν h (.refl hc.mem) ?_)
   simp only[VR]
   exact⟨b,_,rfl,hb,hM,_,pE.sub _ e.size,hr.idx ω⟩
  ·cases h
 ·cases h
theorem EP(hc:Core c σ a.tmps w M ν){x:Operand}(ho:o.op= .nilCheck x){K:g7 α}{id:Nat}{p:List Step}(hx:σ.ρ x= .jE id p)
  (h:K (.jE id p) [] []=some r) (hn:fK c σ a o w M ν K r next):o.wp P a w next Q:=by
 have hv:=hc.ev x
 have RU:=hv
 rw[hx]at hv
 simp only[VR]at hv
 obtain⟨e,he,lO⟩:=hv
 obtain⟨ad,hu⟩:=lO.ptr
 refine a6 (wD ho hu) (hn _ _ _ _ _ M ν h (.refl hc.mem) ?_)
 rw[←hu,←hx];exact RU
theorem CC(hc:Core c σ a.tmps w M ν){x:Operand}(ho:o.op= .nilCheck x){K:g7 α}{τ:Ty}{z:τ.den}(hx:σ.ρ x= .se τ z)
  (h:K (.se τ z) [] []=some r) (hn:fK c σ a o w M ν K r next):o.wp P a w next Q:=by
 have hv:=hc.ev x
 have RU:=hv
 rw[hx]at hv
 simp only[VR]at hv
 obtain⟨b,off,hu,_⟩:=hv
 refine a6 (wD ho hu) (hn _ _ _ _ _ M ν h (.refl hc.mem) ?_)
 rw[←hu,←hx];exact RU
theorem jO.get{H:Nat→Option br}: ∀{qV:List bA} {vs:List Value},jO w M H ν qV vs→ ∀{i:Nat} {x:bA},qV[i]? =some x→ ∃v,vs[i]? =some v∧VR w M H ν x v
 |[],_,_,i,x,hx=>by simp at hx
 |y::qV,[],h,_,_,_=>by simp[jO]at h
 |y::qV,v::vs,h,0,x,hx=>by
  simp only[jO]at h
  simp at hx;subst hx
  exact⟨v,rfl,h.1⟩
 |y::qV,v::vs,h,i+1,x,hx=>by
  simp only[jO]at h
  exact jO.get h.2 (by simpa using hx)
theorem Sa(hc:Core c σ a.tmps w M ν){x:Operand}{i:Nat}(ho:o.op= .extract x i){K:g7 α}{vs:List bA}{v:bA}(hx:σ.ρ x= .tup vs)(hi:vs[i]? =some v)
  (h:K v [] []=some r) (hn:fK c σ a o w M ν K r next):o.wp P a w next Q:=by
 have hv:=hc.ev x
 rw[hx]at hv
 simp only[VR]at hv
 obtain⟨us,hu,hvs⟩:=hv
 obtain⟨u,hui,hvu⟩:=hvs.get hi
 exact a6 (Gv ho hu hui) (hn _ _ _ _ _ M ν h (.refl hc.mem) hvu)
theorem Core.evs(hc:Core c σ a.tmps w M ν): ∀xs:List Operand,jO w M σ.H ν (xs.map σ.ρ) (xs.map a.eval)
 |[]=>by simp[jO]
 |x::xs=>by simp only[bQ,jO];exact⟨hc.ev x,hc.evs xs⟩
theorem xI: ∀{qV:List bA} {vs:List Value} {H:Nat→Option br} {M:Nat→Prop} {K:List bA→List Nat→jF→Option α},Mem c H w M ν→jO w M H ν qV vs→xt H qV K=some r→
  ∃cs rd ups M',K cs rd ups=some r∧Tr c H w M ν (c0 H ups) w M' ν∧jO w M' (c0 H ups) ν cs vs
 |[],vs,H,M,K,hm,hv,h=>⟨[],[],[],M,h,.refl hm,hv⟩
 |x::xs,[],H,M,K,hm,hv,h=>by simp[jO]at hv
 |x::xs,v::vs,H,M,K,hm,hv,h=>by
  simp only[jO]at hv
  unfold xt at h
  split at h
  ·rename_i id
   split at h
   ·rename_i τ z bg
    obtain⟨M1,b,ht,hb,eU,hM,kb,pE,kB⟩:=Tr.fix hm bg
    obtain⟨cs,rd,ups,M2,hK,XN,hv2⟩:=xI ht.mem (jO.cg ht.cg ht.goes hv.2) h
    refine⟨_,_,_,M2,hK,ht.trans XN,?_⟩
    have h1:VR w M1 (cn H id (some .gone)) ν (.se τ z) v:=by
     have Sb:=hv.1
     simp only[VR]at Sb ⊢
     obtain⟨e,he,lO⟩:=Sb
     rw[bg]at he;cases he
     simp only[AR]at lO
     obtain⟨_,b',eX,Sb⟩:=lO
     rw[hb]at eX;cases eX
     exact⟨b,0,Sb,eU,hM,kb,pE,kB⟩
    simp only[jO]
    exact⟨VR.cg XN.cg XN.goes h1,hv2⟩
   ·cases h
  ·obtain⟨cs,rd,ups,M2,hK,XN,hv2⟩:=xI hm hv.2 h
   refine⟨_,_,_,M2,hK,XN,?_⟩
   simp only[jO]
   exact⟨VR.cg XN.cg XN.goes hv.1,hv2⟩
theorem N3(hc:Core c σ a.tmps w M ν){f:FuncId}{first caps:Array Operand}(ho:o.op= .makeFunc (.func f) first caps){K:g7 α}
  (h:cond first.isEmpty (xt σ.H (caps.toList.map σ.ρ) λcs rd ups=>K (.NM f cs) rd ups) none=some r) (hn:fK c σ a o w M ν K r next):o.wp P a w next Q:=by
 obtain⟨hf,h⟩:=cB h
 obtain⟨cs,rd,ups,M',hK,ht,hv⟩:=xI hc.mem (hc.evs _) h
 refine a6 (EN ho (by simpa using hf)) (hn _ _ _ _ _ M' ν hK ht ?_)
 simp only[VR]
 exact⟨caps.toList.map a.eval,by congr 1;apply g8;simp,hv⟩
theorem Sc(hE:EnvTy P E)(hc:Core c σ a.tmps w M ν){s d:TypeId}{x:Operand}(ho:o.op= .convert s d x){K:g7 α}{τ:Ty}{k:IntKind}(hs:E.ty s=some τ)(hd:E.ty d=some (.int k))
  (h:wQ (σ.ρ x) (λ_ n=>K (.val (.int k) (W k n)) [] [])=some r) (hn:fK c σ a o w M ν K r next):o.wp P a w next Q:=by
 obtain⟨k',n,hx,h⟩:=n7 h
 have hv:=hc.ev x
 rw[hx]at hv
 refine a6 (Gw ho (hE.ty s τ hs).isSome (hE.ty d _ hd).int hv.int) (hn _ _ _ _ _ M ν h (.refl hc.mem) ?_)
 rw[Gj];exact .mkInt k _
end VM
end
