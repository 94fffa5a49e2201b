/- A part of the proof of BookAtOnce of layer 18: a machine that reads a function of the program as an equation between values. -/
import Derived.Test.YthkjjlcblhbifaaGreatVm1
import Derived.Great.BuildSlice
import Derived.Laws.Tables
set_option linter.all false
open List renaming length→ℓ, getD→γ
section
namespace VM
open Go
theorem ld{α:Type}{r:α}: ∀{τ:Ty} {x:τ.den} {n:Nat} {m:(υ:Ty)→υ.den→(υ.den→Option α)→Option α} {k:τ.den→Option α},fX τ x n m k=some r→
  ∃υ y o k',DC τ x n υ y o∧m υ y k'=some r∧ ∀z r',k' z=some r'→ ∃x',k x'=some r'∧DC τ x' n υ z o∧
   ∀(w:World) (M:Nat→Prop) cs cs',Rd w M τ cs x→Rd w M υ cs' z→Rd w M τ (eN cs o cs') x'
 | .pair a b,x,0,m,k,h=>by
  refine⟨a,x.1,0,_,.here x,h,λz r' hz=>⟨(z,x.2),hz,.here (a:=a) (b:=b) (z,x.2),λw M cs cs' hr eQ=> ?_⟩⟩
  simp only[Rd]at hr ⊢
  obtain⟨c1,c2,rfl,h1,h2⟩:=hr
  refine⟨cs',c2,?_,eQ,h2⟩
  rw[AS (by rw[eQ.length,h1.length];omega)]
  congr 1
  unfold eN
  rw[gn,eQ.length,←h1.length];simp
 | .pair a b,x,n+1,m,k,h=>by
  obtain⟨υ,y,o,k',hf,hm,hk⟩:=ld (τ:=b) (x:=x.2) (n:=n) (m:=m) (k:=λz=>k (x.1,z)) h
  refine⟨υ,y,_,k',.there x hf,hm,λz r' hz=> ?_⟩
  obtain⟨x',oO,zx,kB⟩:=hk z r' hz
  refine⟨(x.1,x'),oO,.there (a:=a) (b:=b) (x.1,x') zx,λw M cs cs' hr eQ=> ?_⟩
  simp only[Rd]at hr ⊢
  obtain⟨c1,c2,rfl,h1,h2⟩:=hr
  refine⟨c1,_,?_,h1,kB w M c2 cs' h2 eQ⟩
  rw[←h1.length,yr]
 | .int _,_,_,_,_,h| .bool,_,_,_,_,h| .str,_,_,_,_,h| .slice _,_,_,_,_,h| .unit,_,_,_,_,h| .arr _ _,_,_,_,_,h=>by simp[fX]at h
def pv(w:World)(M:Nat→Prop)(e:Ty)(cs:List Value)(l:List e.den):Prop:=
 ∀i (h:i<l.length),Rd w M e ((cs.drop (i*e.size)).take e.size) l[i]
theorem ew{i n s:Nat}(h:i<n):i*s+s≤n*s:=by
 have:(i+1)*s≤n*s:=kv _ h
 rw[eD,kT]at this;exact this
theorem pv.set{w:World}{M:Nat→Prop}{e:Ty}{cs:List Value}{l:List e.den}(h:pv w M e cs l)(hl:l.length*e.size≤cs.length){i:Nat}(hi:i<l.length){cs':List Value}{y:e.den}(hr:Rd w M e cs' y):
  pv w M e (eN cs (i*e.size) cs') (l.set i y):=by
 have hlen:=hr.length
 intro j hj
 rw[bP]at hj
 have h1:=ew (s:=e.size) hi
 have h2:=ew (s:=e.size) hj
 by_cases qh:j=i
 ·subst qh
  have:=ajK (a:=cs) (o:=j*e.size) (new:=cs') ω
  rw[hlen]at this
  rw[this,List.getElem_set_self];exact hr
 ·rw[Fk (by
   rcases Nat.lt_or_gt_of_ne qh with eT|eT
   ·have:=ew (s:=e.size) eT;left;omega
   ·have:=ew (s:=e.size) eT;right;omega) ω,List.getElem_set_ne (fh qh)]
  exact h j hj
theorem pv.append{w:World}{M:Nat→Prop}{e:Ty}{c1 c2:List Value}{l1 l2:List e.den}(h1:pv w M e c1 l1)(hl:c1.length=l1.length*e.size)(h2:pv w M e c2 l2):pv w M e (c1++c2) (l1++l2):=by
 intro i hi
 by_cases eT:i<l1.length
 ·have:=ew (s:=e.size) eT
  rw[ym ω,yl (by rw[dY];omega),Am eT]
  exact h1 i eT
 ·rw[aS]at hi
  obtain⟨k,rfl⟩: ∃k,i=l1.length+k:=⟨i-l1.length,ω⟩
  rw[eD,←hl,←iC,mz rfl,FP ω]
  simp only[Ao]
  exact h2 k ω
theorem pv.take{w:World}{M:Nat→Prop}{e:Ty}{cs:List Value}{l:List e.den}(h:pv w M e cs l){n:Nat}(hn:l.length*e.size≤n):pv w M e (cs.take n) l:=by
 intro i hi
 have:=ew (s:=e.size) hi
 rw[rH,rI,ij ω]
 exact h i hi
theorem pv.more{w:World}{M:Nat→Prop}{e:Ty}{cs cs':List Value}{l:List e.den}(h:pv w M e cs l)(hl:l.length*e.size≤cs.length):pv w M e (cs++cs') l:=by
 intro i hi
 have:=ew (s:=e.size) hi
 rw[ym ω,yl (by rw[dY];omega)]
 exact h i hi
theorem pv.bZ{w w':World}{M M':Nat→Prop}(k:fO w M w' M'){e:Ty}{cs:List Value}{l:List e.den}(h:pv w M e cs l):pv w' M' e cs l:=λi hi=>(h i hi).bZ k
theorem Rd.arr{w:World}{M:Nat→Prop}{n:Nat}{e:Ty}{cs:List Value}{x:(Ty.arr n e).den}:Rd w M (.arr n e) cs x↔ℓ x=n∧cs.length=n*e.size∧pv w M e cs x:=by
 constructor
 ·intro h
  have hl:=h.length
  have h':=h
  simp only[Rd]at h'
  refine⟨h'.1,hl,λi hi=> ?_⟩
  have:=h.idx (i:=i) ω
  rw[lN x i e.zero hi]at this
  exact this
 ·rintro⟨hn,hl,hr⟩
  simp only[Rd]
  refine⟨hn,(List.range n).map λi=>(cs.drop (i*e.size)).take e.size,by simp,?_,λi hi nV=> ?_⟩
  ·
   have key: ∀m (l:List Value),l.length=m*e.size→l=((List.range m).map λi=>(l.drop (i*e.size)).take e.size).flatten:=by
    intro m
    induction m with
    |zero=>intro l hl;simpa using hl
    |succ m ih=>
     intro l hl
     have h1:(l.take (m*e.size)).length=m*e.size:=by rw[bV,hl,eD];omega
     have h2:=ih (l.take (m*e.size)) h1
     rw[Ga,dn,List.flatten_append]
     have h3:((List.range m).map λi=>(l.drop (i*e.size)).take e.size)=(List.range m).map λi=>((l.take (m*e.size)).drop (i*e.size)).take e.size:=by
      apply pE
      intro i hi
      have:=ew (s:=e.size) (rJ.1 hi)
      rw[rH,rI,ij ω]
     rw[h3,←h2]
     simp only[bQ,ik,Ax,List.flatten_nil,cw]
     rw[iz (l:=l.drop (m*e.size)) (by rw[dY,hl,eD];omega),gM]
   exact key n cs hl
  ·simp only[List.getElem_map,FZ]
   exact hr i hi
theorem pN{α:Type}{r:α}{υ:Ty}{y:υ.den}: ∀{p:List Step} {τ:Ty} {x:τ.den} {k:τ.den→Option α},wx υ y p τ x k=some r→
  ∃z,k z=some r∧Jk p τ=υ∧(y4 p τ→cy p τ+υ.size≤τ.size)∧ ∀(w:World) (M:Nat→Prop) cs cs',y4 p τ→Rd w M τ cs x→Rd w M υ cs' y→Rd w M τ (eN cs (cy p τ) cs') z
 |[],τ,x,k,h=>by
  obtain⟨e,h⟩:=bw (h:cJ υ τ y k=some r)
  subst e
  refine⟨y,h,rfl,λ_=>by simp[cy],λw M cs cs' _ hr eQ=> ?_⟩
  unfold eN
  rw[show cy [] υ=0 from rfl,gn,eQ.length,←hr.length]
  simpa using eQ
 | .gG n::p,τ,x,k,h=>by
  obtain⟨υ',y',o,k',hf,hm,hk⟩:=ld (h:fX τ x n _ k=some r)
  obtain⟨z',Ad,ht,I4,kB⟩:=pN (p:=p) (τ:=υ') (x:=y') (k:=k') hm
  obtain⟨x',oO,zx,U4⟩:=hk z' r Ad
  obtain⟨h1,h2⟩:=hf.eq
  subst h1 h2
  refine⟨x',oO,ht,λhi=>by have:=hf.bound;have:=I4 hi;simp only[cy];omega,λw M cs cs' hi hr eQ=> ?_⟩
  have I4:=I4 hi
  have h3:=kB w M _ cs' hi (hf.rd hr) eQ
  have h4:=U4 w M cs _ hr h3
  have hb:=hf.bound
  have hlc:=hr.length
  have hl2:=eQ.length
  have hl3:=h3.length
  have kC:cy p (sV τ n)+cs'.length≤((cs.drop (gq τ n)).take (sV τ n).size).length:=by
   rw[bV,dY];omega
  have:eN cs (gq τ n) (eN ((cs.drop (gq τ n)).take (sV τ n).size) (cy p (sV τ n)) cs')=eN cs (gq τ n+cy p (sV τ n)) cs':=by
   have e1:cs=cs.take (gq τ n)++(((cs.drop (gq τ n)).take (sV τ n).size)++cs.drop (gq τ n+(sV τ n).size)):=by
    rw[←iC,gM,gM]
   have eT:(cs.take (gq τ n)).length=gq τ n:=by rw[bV];omega
   conv=>rhs;rw[e1]
   rw[show gq τ n+cy p (sV τ n)=(cs.take (gq τ n)).length+cy p (sV τ n)from by rw[eT],yr,AS kC]
   generalize eN ((cs.drop (gq τ n)).take (sV τ n).size) (cy p (sV τ n)) cs'=m at hl3 ⊢
   unfold eN
   rw[hl3,bE]
  simp only[cy]
  rw[←this]
  exact h4
 | .idx i::p,τ,x,k,h=>by
  cases τ with
  |arr n e=>
   obtain⟨z',Ad,ht,I4,kB⟩:=pN (p:=p) (τ:=e) (x:=γ x i e.zero) (k:=λz=>k (List.set x i z)) h
   refine⟨_,Ad,ht,λhi=>by
    obtain⟨⟨n',e',he,kC⟩,nV⟩:=hi
    cases he
    have:=I4 nV
    have hm:=ew (s:=e.size) kC
    simp only[cy,elT,Ty.size];omega,λw M cs cs' hi hr eQ=> ?_⟩
   obtain⟨⟨n',e',he,kC⟩,nV⟩:=hi
   cases he
   have h3:=kB w M _ cs' nV (hr.idx kC) eQ
   obtain⟨hn,hlc,J6⟩:=Rd.arr.1 hr
   have hm:=ew (s:=e.size) kC
   have h4:=J6.set (by rw[hlc,hn];exact aH _) (i:=i) ω h3
   have hl2:=eQ.length
   have hl3:=h3.length
   have hch:((cs.drop (i*e.size)).take e.size).length=e.size:=by rw[bV,dY];omega
   have I4:=I4 nV
   have auU:cy p e+cs'.length≤((cs.drop (i*e.size)).take e.size).length:=ω
   have:eN cs (i*e.size) (eN ((cs.drop (i*e.size)).take e.size) (cy p e) cs')=eN cs (i*e.size+cy p e) cs':=by
    have e1:cs=cs.take (i*e.size)++(((cs.drop (i*e.size)).take e.size)++cs.drop (i*e.size+e.size)):=by
     rw[←iC,gM,gM]
    have eT:(cs.take (i*e.size)).length=i*e.size:=by rw[bV];omega
    conv=>rhs;rw[e1]
    rw[show i*e.size+cy p e=(cs.take (i*e.size)).length+cy p e from by rw[eT],yr,AS auU]
    generalize eN ((cs.drop (i*e.size)).take e.size) (cy p e) cs'=m at hl3 ⊢
    unfold eN
    rw[hl3,bE]
   simp only[cy,elT]
   rw[←this]
   refine Rd.arr.2 ⟨by rw[bP];exact hn,?_,h4⟩
   rw[eH (by rw[hl3];omega)];exact hlc
  |_=>simp[wx,Fh]at h
theorem Rd.aoE{w:World}{M:Nat→Prop}{τ υ:Ty}{cs:List Value}{x:τ.den}(e:τ=υ)(h:Rd w M τ cs x):Rd w M υ cs (e▸x):=by subst e;exact h
theorem Gw{α:Type}{r:α}{e:Ty}{l:List e.den}: ∀{τ:Ty} {n:Nat} {z:τ.den} {k:τ.den→Option α},fX τ z n (fun υ' _ k'=>cJ (.slice e) υ' l k') k=some r→
  ∃x,k x=some r∧fX τ z n (fun υ' _ k'=>cJ (.slice e) υ' l k') some=some x∧u9 τ x n (fun υ y=>cJ υ (.slice e) y some)=some l∧ ∀l':List e.den,∃z0,
   (∀(β:Type) (k':τ.den→Option β),fX τ x n (fun υ' _ k'=>cJ (.slice e) υ' l' k') k'=k' z0)∧ ∀(β:Type) (k':τ.den→Option β),fX τ z n (fun υ' _ k'=>cJ (.slice e) υ' l' k') k'=k' z0
 | .pair a b,0,z,k,h=>by
  have h1:cJ (.slice e) a l (λw=>k (w,z.2))=some r:=h
  obtain⟨e1,h2⟩:=bw h1
  clear h1 h
  subst e1
  exact⟨_,h2,by simp[fX,cJ],by simp[u9,cJ],λl'=>⟨(l',z.2),λβ k'=>by simp[fX,cJ],λβ k'=>by simp[fX,cJ]⟩⟩
 | .pair a b,n+1,z,k,h=>by
  obtain⟨x,h1,h0,h2,h3⟩:=Gw (τ:=b) (n:=n) (z:=z.2) (k:=λw=>k (z.1,w)) h
  refine⟨(z.1,x),h1,?_,h2,λl'=> ?_⟩
  ·obtain⟨z0,h4,h5⟩:=h3 l
   have h6:=h5 _ some
   rw[h0]at h6
   cases h6
   exact h5 _ λw=>some (z.1,w)
  obtain⟨z0,h4,h5⟩:=h3 l'
  exact⟨(z.1,z0),λβ k'=>h4 β λw=>k' (z.1,w),λβ k'=>h5 β λw=>k' (z.1,w)⟩
 | .int _,_,_,_,h| .bool,_,_,_,h| .str,_,_,_,h| .slice _,_,_,_,h| .unit,_,_,_,h| .arr _ _,_,_,_,h=>by simp[fX]at h
end VM
end
section
namespace VM
open Go
variable{P:Program}{E:Env}{o:Oper}{a:Act}{w:World}{M:Nat→Prop}{ν:Nat→Value}{σ:St}{c:Ctx}{α:Type}{r:α}{next:Act→World→Prop}{Q:Exit→Act→World→Prop}
theorem a6{v:Value}{w':World}(h:(execOp a.eval o).run P w= .ok (.value v) w')(hn:next (a.put o.dst v) w'):o.wp P a w next Q:=by
 unfold Oper.wp Oper.upon;rw[h];exact hn
theorem oT{w':World}(h:(execOp a.eval o).run P w= .ok .skip w')(hn:next (a.put o.dst undef) w'):o.wp P a w next Q:=by
 unfold Oper.wp Oper.upon;rw[h];exact hn
def fH(c:Ctx)(σ:St)(a:Act)(o:Oper)(w:World)(M:Nat→Prop)(ν:Nat→Value)(K:gL α)(r:α)(next:Act→World→Prop):Prop:=
 ∀v rd ups v' w' M' ν',K v rd ups=some r→Tr c σ.H w M ν (cP σ.H ups) w' M' ν'→VR w' M' (cP σ.H ups) ν' v v'→next (a.put o.dst v') w'
theorem Core.ev(h:Core c σ a.tmps w M ν)(x:Operand):VR w M σ.H ν (σ.ρ x) (a.eval x):=h.op a.defers x
theorem nX{x:bA}{k:IntKind→Int→Option α}(h:wz x k=some r): ∃(i:IntKind) (n:Int),x= .val (.int i) n∧k i n=some r:=by
 unfold wz at h
 split at h
 ·exact⟨_,_,rfl,h⟩
 ·cases h
theorem VR.int{H:Nat→Option bp}{k:IntKind}{n:Int}{v:Value}(h:VR w M H ν (.val (.int k) n) v):v= .int k n:=by
 simp only[VR,V,Ty.isAgg,jL,fG,Rd,fV,eF]at h;exact h
theorem VR.bool{H:Nat→Option bp}{b:Bool}{v:Value}(h:VR w M H ν (.val .bool b) v):v= .bool b:=by
 simp only[VR,V,Ty.isAgg,jL,fG,Rd,fV,eF]at h;exact h
theorem VR.str{H:Nat→Option bp}{b:ByteArray}{v:Value}(h:VR w M H ν (.val .str b) v):v= .string b:=by
 simp only[VR,V,Ty.isAgg,jL,fG,Rd,fV,eF]at h;exact h
theorem VR.mkInt{H:Nat→Option bp}(k:IntKind)(n:Int):VR w M H ν (.val (.int k) n) (.int k n):=by simp[VR,V,Ty.isAgg,Rd]
theorem VR.vf{H:Nat→Option bp}(b:Bool):VR w M H ν (.val .bool b) (.bool b):=by simp[VR,V,Ty.isAgg,Rd]
theorem VR.mkStr{H:Nat→Option bp}(b:ByteArray):VR w M H ν (.val .str b) (.string b):=by simp[VR,V,Ty.isAgg,Rd]
theorem Tw(hc:Core c σ a.tmps w M ν){x:Operand}(ho:o.op= .move x∨o.op= .assign x){K:gL α}(h:K (σ.ρ x) [] []=some r)(hn:fH c σ a o w M ν K r next):o.wp P a w next Q:=by
 have hr:(execOp a.eval o).run P w= .ok (.value (a.eval x)) w:=by
  rcases ho with ho|ho
  ·simp[execOp,ho]
  ·simp[execOp,ho]
 exact a6 hr (hn _ _ _ _ _ _ _ h (.refl hc.mem) (hc.ev x))
theorem abH(hc:Core c σ a.tmps w M ν){x y z:Operand}(ho:o.op= .pick x y z){K:gL α}{t:Bool}(hx:σ.ρ x= .val .bool t)(h:cond t (K (σ.ρ y) [] []) (K (σ.ρ z) [] [])=some r)
  (hn:fH c σ a o w M ν K r next):o.wp P a w next Q:=by
 have hv:=hc.ev x
 rw[hx]at hv
 refine a6 (NV ho hv.bool) ?_
 cases t
 ·exact hn _ _ _ _ _ _ _ h (.refl hc.mem) (hc.ev z)
 ·exact hn _ _ _ _ _ _ _ h (.refl hc.mem) (hc.ev y)
theorem mC{H:Nat→Option bp}{id:Nat}{e:bp}{K:Option α}(h:rS H id e K=some r):H id=none∧K=some r:=by
 unfold rS at h
 split at h
 ·rename_i h';exact⟨h',h⟩
 ·cases h
theorem VR.aif{H:Nat→Option bp}{id:Nat}{τ:Ty}{x:τ.den}{b:Nat}(bg:H id=some (.obj τ x))(hν:ν id= .pointer (some ⟨b,0,none⟩)):VR w M H ν (.jd id []) (.pointer (some ⟨b,0,none⟩)):=by
 simp only[VR]
 exact⟨_,bg,trivial,b,hν,rfl⟩
theorem VR.XD{H:Nat→Option bp}{id:Nat}{τ:Ty}{x:τ.den}{q:List Step}{j b:Nat}(bg:H id=some (.gg τ x q j))(hν:ν id= .pointer (some ⟨b,0,none⟩)):VR w M H ν (.jd id []) (.pointer (some ⟨b,0,none⟩)):=by
 simp only[VR]
 exact⟨_,bg,trivial,b,hν,rfl⟩
theorem fI(τ:Ty):(cg τ τ.cD).cells.toList=τ.cD:=Jj (Rd.zero default (λ_=>False) τ)
theorem NW: ∀{τ:Ty} {n:Nat} {a:Ty},yW τ n=some a→ ∃l m,τ.cD=l++(a.cD++m)∧l.length=gq τ n:=by
 intro τ
 induction τ with
 |pair a b _ XC=>
  intro n c h
  cases n with
  |zero=>cases h;exact⟨[],b.cD,rfl,rfl⟩
  |succ n=>
   obtain⟨l,m,h1,h2⟩:=XC (n:=n) (a:=c) h
   refine⟨a.cD++l,m,by simp only[Ty.cD];rw[h1,bE],?_⟩
   rw[aS,h2,(Rd.zero default (λ_=>False) a).length];rfl
 |_=>intro n c h;simp[yW]at h
theorem AX: ∀{p:List Step} {τ υ:Ty},fy p τ υ=true→ ∃l m,τ.cD=l++(υ.cD++m)∧l.length=cy p τ
 |[],τ,υ,h=>by
  have h:=bt h
  subst h
  exact⟨[],[],by simp,rfl⟩
 | .gG n::p,τ,υ,h=>by
  unfold fy at h
  split at h
  ·rename_i a ha
   obtain⟨l,m,h1,h2⟩:=NW ha
   obtain⟨l',m',h3,h4⟩:=AX h
   obtain⟨_,_,hf⟩:=kZ ha τ.zero
   have:=hf.eq.1
   subst this
   refine⟨l++l',m'++m,by rw[h1,h3];simp,?_⟩
   rw[aS,h2,h4];rfl
  ·cases h
 | .idx _::_,_,_,h=>by simp[fy]at h
theorem Co{p:List Step}{τ e:Ty}(h:fy p τ (.slice e)=true):τ.cD[cy p τ]? =some (.slice none 0 0):=by
 obtain⟨l,m,h1,h2⟩:=AX h
 rw[h1,pj ω,h2,uq];rfl
theorem cz{b:Bool}{K:Option α}(h:cond b K none=some r):b=true∧K=some r:=by
 cases b
 ·cases h
 ·exact⟨rfl,h⟩
theorem Lx{τ:Ty}{q:List Step}{e:Ty}(h:lkT E τ=some (q,e)):fy q τ (.slice e)=true:=by
 unfold lkT at h
 split at h
 ·rename_i υ q' e' _ _
  cases hd:decide (υ=τ)<;>rw[hd]at h
  ·cases h
  ·simp only[ak]at h
   cases hp:fy q' τ (.slice e')<;>rw[hp]at h
   ·cases h
   ·cases h;exact hp
 ·cases h
theorem rX{τ:Ty}{id:Nat}{q:List Step}{e:Ty}(h:Ji E τ id=some (q,e)):fy q τ (.slice e)=true:=by
 unfold Ji at h
 split at h
 ·exact Lx (cz h).2
 ·cases h
theorem Gx{H:Nat→Option bp}{id:Nat}{τ:Ty}{x:τ.den}{q:List Step}{e:Ty}{K:gL α}(h:EF H id τ x q e K=some r):H id=none∧H (id+1)=none∧K (.jd id []) [id,id+1] [(id,some (.gg τ x q (id+1))),(id+1,some (.own e []))]=some r:=by
 unfold EF at h
 obtain⟨h1,h⟩:=mC h
 obtain⟨h2,h⟩:=mC h
 exact⟨h1,h2,h⟩
theorem U6{H:Nat→Option bp}{i j:Nat}{u v:Option bp}(h:i≠j):ca (ca H i u) j v=ca (ca H j v) i u:=by
 funext k
 by_cases hi:k=i
 ·subst hi;rw[az _ _ h,ay,ay]
 ·by_cases hj:k=j
  ·subst hj;rw[ay,az _ _ hi,ay]
  ·rw[az _ _ hj,az _ _ hi,az _ _ hi,az _ _ hj]
theorem zz{H:Nat→Option bp}{i:Nat}{u v:Option bp}:ca (ca H i u) i v=ca H i v:=by
 funext k
 by_cases hi:k=i
 ·subst hi;rw[ay,ay]
 ·rw[az _ _ hi,az _ _ hi,az _ _ hi]
theorem Tr.XE{H:Nat→Option bp}(h:Mem c H w M ν){id k:Nat}(hk:H k=none){τ:Ty}{x:τ.den}(bg:H id=some (.obj τ x)){b:Nat}{cs:Array Value}{t:TypeId}(hb:ν id= .pointer (some ⟨b,0,none⟩))(hg:w.heap[b]? =some (.cells cs t (0,0)))
  {q:List Step} {e:Ty} (hq:fy q τ (.slice e)=true) {ad:Option Addr} (hz:cs.toList[cy q τ]? =some (.slice ad 0 0)):
  Tr c H w M ν (cP H [(id,some (.gg τ x q k)),(k,some (.own e []))]) w M (updν ν k (.slice ad 0 0)):=by
 have ko:k≠id:=λe=>by rw[e,bg]at hk;cases hk
 have h2:=Tr.nothing h hk e ad
 have hd2:ca H k (some (.own e [])) id=some (.obj τ x):=by rw[az _ _ (fh ko)];exact bg
 have hν:updν ν k (.slice ad 0 0) id= .pointer (some ⟨b,0,none⟩):=by unfold updν;rw[ah (fh ko)];exact hb
 have hν1:updν ν k (.slice ad 0 0) k= .slice ad 0 0:=by simp[updν]
 have he:=h2.mem.jO id _ hd2
 simp only[ER]at he
 obtain⟨b',cs',t',fa,hg',hM,kB⟩:=he
 rw[hν]at fa;cases fa
 rw[hg]at hg';cases hg'
 have h3:=Tr.Jm h2.mem hd2 trivial (e':= .gg τ x q k) trivial rfl (λ_ _=>by simp) (by
   rw[hν];simp only[ER]
   exact⟨_,cs,t,cs.toList,.slice ad 0 0,rfl,hg,hM,kB,(xd hz).symm,rfl,e,hq⟩)
  (fun τ' x' p' j' hl=>by
   cases hl
   refine⟨by rw[ay];simp,_,hν,?_⟩
   rw[hν1,cell_of hg,←iA];exact hz)
 rw[U6 (i:=k) (j:=id) ko]at h3
 exact h2.trans h3
theorem Tr.EF{H:Nat→Option bp}(h:Mem c H w M ν){id:Nat}(bg:H id=none)(qi:H (id+1)=none)(t:TypeId){τ:Ty}{cs:Array Value}{x:τ.den}(hr:Rd w M τ cs.toList x){q:List Step}{e:Ty}(hq:fy q τ (.slice e)=true){ad:Option Addr}
  (hz:cs.toList[cy q τ]? =some (.slice ad 0 0)):
  ∃M' ν',Tr c H w M ν (cP H [(id,some (.gg τ x q (id+1))),(id+1,some (.own e []))]) (w.alloc (.cells cs t)) M' ν'∧ν' id= .pointer (some ⟨w.heap.size,0,none⟩):=by
 have h1:=Tr.var h bg t hr
 have h2:=Tr.XE h1.mem (id:=id) (k:=id+1) (by rw[az _ _ ω];exact qi) (ay _ _ _) (by simp[updν]) (Gq w _) hq hz
 have e1:cP (ca H id (some (.obj τ x))) [(id,some (.gg τ x q (id+1))),(id+1,some (.own e []))]=cP H [(id,some (.gg τ x q (id+1))),(id+1,some (.own e []))]:=by
  show ca (ca (ca H id _) id _) (id+1) _=ca (ca H id _) (id+1) _
  rw[zz]
 rw[e1]at h2
 exact⟨_,_,h1.trans h2,by simp[updν]⟩
theorem XF(hE:EnvTy P E)(hc:Core c σ a.tmps w M ν){t:TypeId}(ho:o.op= .alloc t){K:gL α}{τ:Ty}(ht:E.ty t=some τ){id:Nat}
  (h:(match Ji E τ id with
   |some (q,e)=>EF σ.H id τ τ.zero q e K
   |none=>rS σ.H id (.obj τ τ.zero) (K (.jd id []) [id] [(id,some (.obj τ τ.zero))]))=some r) (hn:fH c σ a o w M ν K r next):o.wp P a w next Q:=by
 obtain⟨i,hi,hs,hz,_⟩:=(hE.ty t τ ht).base
 have hr:Rd w M τ (cg τ τ.cD).cells.toList τ.zero:=by rw[fI];exact Rd.zero w M τ
 split at h
 ·rename_i q e qA
  obtain⟨bg,qi,h⟩:=Gx h
  obtain⟨M',ν',gi,hν⟩:=Tr.EF hc.mem bg qi t hr (rX qA) (by rw[fI];exact Co (rX qA))
  refine a6 (AV ho hi hz w) (hn _ _ _ _ _ M' ν' h gi ?_)
  exact VR.XD (by show ca _ (id+1) _ id=_;rw[az _ _ ω,ay]) hν
 ·obtain⟨bg,h⟩:=mC h
  refine a6 (AV ho hi hz w) (hn _ _ _ _ _ _ _ h (Tr.var hc.mem bg t hr) (VR.aif (ay _ _ _) (by simp[updν])))
theorem Tx(hE:EnvTy P E)(hc:Core c σ a.tmps w M ν){t:TypeId}{x:Operand}(ho:o.op= .box t x){K:gL α}{τ:Ty}{id:Nat}
  (h:m0 true (σ.ρ x) σ.H τ (λy rd ups=>rS σ.H id (.obj τ y) (K (.jd id []) (id::rd) (ups++[(id,some (.obj τ y))])))=some r) (hn:fH c σ a o w M ν K r next):o.wp P a w next Q:=by
 obtain⟨y,rd,ups,M',h,gi,hV,hz,_⟩:=la (.refl _) hc.mem (hc.ev x) h
 obtain⟨bg,h⟩:=mC h
 have ajN:cP σ.H ups id=none:=hz.none bg
 have xj:=gi.trans (Tr.var gi.mem ajN t hV.cells)
 refine a6 (Gr ho w) (hn _ _ _ _ _ (λb=>M' b∨b=w.heap.size) (updν ν id (.pointer (some ⟨w.heap.size,0,none⟩))) h ?_ ?_)
 ·rw[eY];exact xj
 ·rw[eY];exact VR.aif (ay _ _ _) (by simp[updν])
theorem ajO(hE:EnvTy P E)(hc:Core c σ a.tmps w M ν){t:TypeId}{x:Operand}(ho:o.op= .box t x){K:gL α}{τ:Ty}{id:Nat}
  (h:(match Ji E τ id,σ.ρ x with
   |some ([.gG m],e),.Lq υ y n=>cond (Nat.beq m n) (cJ υ τ y λy=>EF σ.H id τ y [.gG m] e K) (m0 true (σ.ρ x) σ.H τ (λy rd ups=>rS σ.H id (.obj τ y) (K (.jd id []) (id::rd) (ups++[(id,some (.obj τ y))]))))
   |_,_=>m0 true (σ.ρ x) σ.H τ (λy rd ups=>rS σ.H id (.obj τ y) (K (.jd id []) (id::rd) (ups++[(id,some (.obj τ y))]))))=some r) (hn:fH c σ a o w M ν K r next):o.wp P a w next Q:=by
 split at h
 ·rename_i m e υ y n qA hx
  cases hb:Nat.beq m n
  ·rw[hb]at h
   exact Tx hE hc ho h hn
  ·rw[hb]at h
   have Cp:=fF hb
   subst Cp
   simp only[ak]at h
   obtain⟨e1,h⟩:=bw h
   subst e1
   obtain⟨bg,qi,h⟩:=Gx h
   have hv:=hc.ev x
   rw[hx]at hv
   simp only[VR]at hv
   obtain⟨hV,cs,ad,hva,hz⟩:=hv
   have tU:(a.eval x).cells.toList=cs.toList:=by rw[hva];rfl
   obtain⟨M',ν',gi,hν⟩:=Tr.EF hc.mem bg qi t hV.cells (rX qA) (ad:=ad) (by rw[tU];simpa [cy]using hz)
   refine a6 (Gr ho w) (hn _ _ _ _ _ M' ν' h gi ?_)
   exact VR.XD (by show ca _ (id+1) _ id=_;rw[az _ _ ω,ay]) hν
 ·exact Tx hE hc ho h hn
theorem vg{i:Int}{n:Nat}(h:bb i n=true):0≤i∧i<(n:Int):=by rw[Xx]at h;simpa using h
theorem nn{b:Bool}{K:Option α}(h:cond b none K=some r):b=false∧K=some r:=by
 cases b
 ·exact⟨rfl,h⟩
 ·cases h
theorem DG(hm:Mem c σ.H w M ν){x:bA}{u:Value}(hv:VR w M σ.H ν x u){K:(υ:Ty)→υ.den→List Nat→Option α}(h:lY x σ.H K=some r):
  ∃υ y rd,K υ y rd=some r∧ ∃b off cs,u= .pointer (some ⟨b,off,none⟩)∧At w b off cs∧Rd w M υ cs y:=by
 unfold lY at h
 split at h
 ·simp only[VR]at hv
  obtain⟨b,off,rfl,_,_,cs,ha,hr⟩:=hv
  exact⟨_,_,_,h,b,off,cs,rfl,ha,hr⟩
 ·rename_i id p
  simp only[VR]at hv
  obtain⟨e,he,lR⟩:=hv
  have kO:=hm.jO id e he
  rw[he]at h
  cases e with
  |obj τ x=>
   obtain⟨υ,y,o',hp,hK⟩:=kY h
   simp only[AR]at lR
   obtain⟨hi,b,hb,rfl⟩:=lR
   simp only[ER]at kO
   obtain⟨b',cs,t,fa,hg,_,hr⟩:=kO
   rw[hb]at fa;cases fa
   have:=hp.eq.2
   subst this
   exact⟨υ,y,_,hK,b,_,_,rfl,At.of_block hg _ _,hp.rd hi hr⟩
  |own e l=>
   simp only[AR]at lR
   obtain⟨i,q,rfl,Fm,hi,b,n,cp,hb,rfl⟩:=lR
   obtain⟨υ,y,o',hp,hK⟩:=kY h
   simp only[ER]at kO
   rcases kO with⟨rfl,_⟩|⟨b',cs,t,cap,fa,hg,_,Tz,hl,Fl,hs,hr⟩
   ·simp at Fm
   ·rw[hb]at fa;cases fa
    have:=hp.eq.2
    subst this
    have h1:=hr i Fm
    rw[←lN l i e.zero Fm]at h1
    have h2:=hp.rd hi h1
    have h3:=hp.bound hi
    rw[rH,iC,rI,ij ω]at h2
    exact⟨υ,y,_,hK,b,_,_,rfl,At.of_block hg _ _,h2⟩
  |pq e l=>
   simp only[AR]at lR
   obtain⟨i,q,rfl,Fm,hi,b,n,cp,hb,rfl⟩:=lR
   obtain⟨υ,y,o',hp,hK⟩:=kY h
   simp only[ER]at kO
   have kB:=kO.1
   simp only[Rd,fV,eF]at kB
   obtain⟨a0,cap,ha0,_,hr⟩:=kB
   obtain⟨b',off,rfl,_,_,cs,pt,hrr⟩:=hr i Fm
   rw[hb]at ha0;cases ha0
   have:=hp.eq.2
   subst this
   rw[gn]at pt
   have aoH:Rd w M e cs (γ l i e.zero):=by rw[lN l i e.zero Fm];exact hrr
   have h2:=hp.rd hi aoH
   have h3:=hp.bound hi
   have hlc:=aoH.length
   refine⟨υ,y,_,hK,b,_,_,rfl,?_,h2⟩
   intro j v hj
   rw[mR]at hj
   split at hj
   ·rw[mS]at hj
    have:=pt _ v hj
    rwa [←pI]at this
   ·cases hj
  |gg _ _ _ _=>cases h
  |gone=>cases h
 ·cases h
theorem Mem.linked{H:Nat→Option bp}(hm:Mem c H w M ν){id:Nat}{τ:Ty}{x:τ.den}{q:List Step}{j:Nat}(bg:H id=some (.gg τ x q j)):
  ∃b cs t ka e,ν id= .pointer (some ⟨b,0,none⟩)∧w.heap[b]? =some (.cells cs t (0,0))∧M b∧Rd w M τ ka x∧cs.toList=eN ka (cy q τ) [ν j]∧(ν j).oneCell'=true∧fy q τ (.slice e)=true∧cy q τ<ka.length∧H j≠none:=by
 have kO:=hm.jO id _ bg
 simp only[ER]at kO
 obtain⟨b,cs,t,ka,u,hb,hg,hM,hr,tU,h1,e,hq⟩:=kO
 obtain⟨hj,b',fa,TA⟩:=hm.gg id _ _ _ _ bg
 rw[hb]at fa;cases fa
 obtain⟨y,o,hp⟩:=uy hq x
 have eT:cy q τ<ka.length:=by
  have:=hp.bound (lO hq).1
  have h2:=hp.eq.2
  have h3:=hr.length
  have:(Ty.slice e).size=1:=rfl
  omega
 have hu:u=ν j:=by
  rw[cell_of hg,←iA,tU,yt eT]at TA
  exact nR TA
 subst hu
 exact⟨b,cs,t,ka,e,hb,hg,hM,hr,tU,h1,hq,eT,hj⟩
theorem vh{H:Nat→Option bp}(hm:Mem c H w M ν){id:Nat}{τ:Ty}{x:τ.den}{q:List Step}{j:Nat}(bg:H id=some (.gg τ x q j)){k:τ.den→jr→Option α}(h:Ck j q τ x H k=some r):
  ∃z ups M',k z ups=some r∧Tr c H w M ν (cP H ups) w M' ν∧Fz H (cP H ups)∧((∃e l,H j=some (.pq e l)∧ups=[])∨ ∃e l,H j=some (.own e l)∧ups=[(j,some (.pq e l))])∧ ∃b cs t,ν id= .pointer (some ⟨b,0,none⟩)∧w.heap[b]? =some (.cells cs t (0,0))∧M' b∧Rd w M' τ cs.toList z:=by
 obtain⟨b,cs,t,ka,e0,hb,hg,hM,hr,tU,h1,hq,eT,hj⟩:=hm.linked bg
 have RN:=(lO hq).1
 unfold Ck at h
 split at h
 ·rename_i e l AY
  obtain⟨z,hz,DH,I4,rY⟩:=pN h
  obtain⟨M',gi,hV,hM'⟩:=Tr.freeze hm AY
  refine⟨z,_,M',hz,gi,λi=> ?_,.inr ⟨e,l,AY,rfl⟩,b,cs,t,hb,hg,?_,?_⟩
  ·by_cases hi:i=j
   ·subst hi;exact .inr ⟨e,l,AY,ay _ _ _⟩
   ·exact .inl (az _ _ hi)
  ·refine(hM' b).2 ⟨hM,λhjb=> ?_⟩
   have ko:j≠id:=λe=>by rw[e,bg]at AY;cases AY
   exact hm.AT j id _ _ b ko AY trivial bg trivial hjb (by rw[hb];rfl)
  ·rw[tU]
   exact rY w M' ka [ν j] RN (hr.bZ gi.bZ) (V.slice.1 hV)
 ·rename_i e l AY
  obtain⟨z,hz,DH,I4,rY⟩:=pN h
  have kO:=hm.jO j _ AY
  simp only[ER]at kO
  refine⟨z,_,M,hz,.refl hm,.refl H,.inl ⟨e,l,AY,rfl⟩,b,cs,t,hb,hg,hM,?_⟩
  rw[tU]
  exact rY w M ka [ν j] RN hr kO.1
 ·cases h
theorem anM{τ υ:Ty}{t:TypeId}(hE:EnvTy P E)(ht:E.ty t=some τ)(h:fy ([]:List Step) υ τ=true):υ=τ:=bt h
theorem Rd.ajP{e:Ty}{v:Value}{cs:List Value}{l:List e.den}(h:Rd w M (.slice e) cs l): ∃a n cap,cs=[.slice a n cap]:=by
 simp only[Rd]at h
 obtain⟨a,cap,rfl,_⟩:=h
 exact⟨a,_,cap,rfl⟩
theorem Jo{ρ:Operand→Value}{t:TypeId}{x:Operand}(ho:o.op= .load t x){τ:Ty}(h:kX P τ t)(ha:τ.isAgg=false){b off:Nat}{v:Value}(hx:ρ x= .pointer (some ⟨b,off,none⟩))(hc:w.cell? ⟨b,off,none⟩=some v):
  (execOp ρ o).run P w= .ok (.value v) w:=by
 have:(loadVar t ⟨b,off,none⟩).run P w= .ok v w:=by
  simp[loadVar,rm h,ha,load,Sem.run,hc]
 simp[execOp,ho,hx,Instr.loadAt,Instr.sureAddr,this]
theorem NX(hE:EnvTy P E)(hc:Core c σ a.tmps w M ν){t:TypeId}{x:Operand}(ho:o.op= .load t x){K:gL α}{τ:Ty}(ht:E.ty t=some τ)
  (h:lY (σ.ρ x) σ.H (fun υ y rd=>cJ υ τ y λz=>K (.val τ z) rd [])=some r) (hn:fH c σ a o w M ν K r next):o.wp P a w next Q:=by
 obtain⟨υ,y,rd,h,b,off,cs,hu,pt,hr⟩:=DG hc.mem (hc.ev x) h
 obtain⟨e,h⟩:=bw h
 subst e
 refine a6 (xg ho (hE.ty t _ ht) hu pt hr) (hn _ _ _ _ _ _ _ h (.refl hc.mem) ?_)
 simp only[VR]
 exact V.cg hr
theorem TB(hE:EnvTy P E)(hc:Core c σ a.tmps w M ν){t:TypeId}{x:Operand}(ho:o.op= .load t x){K:gL α}{τ:Ty}(ht:E.ty t=some τ)
  (h:uv τ (σ.ρ x) σ.H K=some r) (hn:fH c σ a o w M ν K r next):o.wp P a w next Q:=by
 unfold uv at h
 simp only at h
 split at h
 ·rename_i id p hx
  split at h
  ·rename_i υ z q j bg
   have hv:=hc.ev x
   rw[hx]at hv
   simp only[VR]at hv
   obtain⟨e1,Gy,lR⟩:=hv
   rw[bg]at Gy;cases Gy
   simp only[AR]at lR
   obtain⟨hi,b,hb,hu⟩:=lR
   obtain⟨b',cs,te,ka,e0,fa,hg,hM,hr,tU,h1,hq,eT,hj⟩:=hc.mem.linked bg
   rw[hb]at fa;cases fa
   cases hp:Jg p q
   ·rw[hp]at h
    cases I2:yV p q
    ·
     rw[I2]at h
     simp only[av]at h
     obtain⟨υ',y,o',y5,h⟩:=kY h
     obtain⟨e2,h⟩:=bw h
     subst e2
     have hap:=y5.apart hi hq I2
     have ho':=y5.eq.2
     subst ho'
     have I4:=y5.bound hi
     have hlen:=hr.length
     have kB:Rd w M υ' ((cs.toList.drop (cy p υ)).take υ'.size) y:=by
      rw[tU,Fk (by simp only[aJ];omega) (by simp only[aJ];omega)]
      exact y5.rd hi hr
     refine a6 (xg ho (hE.ty t _ ht) hu (At.of_block hg _ _) kB) (hn _ _ _ _ _ M ν h (.refl hc.mem) ?_)
     simp only[VR]
     exact V.cg kB
    ·
     rw[I2]at h
     simp only[av,ak]at h
     obtain⟨z',ups,M',h,gi,_,_,b2,TC,t2,uX,XG,Ly,zA⟩:=vh hc.mem bg h
     rw[hb]at uX;cases uX
     rw[hg]at XG;cases XG
     obtain⟨υ',y,o',y5,h⟩:=kY h
     obtain⟨e2,h⟩:=bw h
     subst e2
     have ho':=y5.eq.2
     subst ho'
     have kB:=y5.rd hi zA
     refine a6 (xg ho (hE.ty t _ ht) hu (At.of_block hg _ _) kB) (hn _ _ _ _ _ M' ν h gi ?_)
     simp only[VR]
     exact V.cg kB
   ·
    rw[hp]at h
    have:=zy hp
    subst this
    simp only[ak]at h
    obtain⟨hpq,hK⟩:=cz h
    have hτ:τ= .slice e0:=(lO hpq).2.symm.trans (lO hq).2
    subst hτ
    have TA:w.cell? ⟨b,cy p υ,none⟩=some (ν j):=by rw[cell_of hg,←iA,tU,yt eT]
    refine a6 (Jo ho (hE.ty t _ ht) rfl hu TA) (hn _ _ _ _ _ M ν hK (.refl hc.mem) ?_)
    simp only[VR]
    exact⟨hj,trivial⟩
  ·exact NX hE hc ho ht h hn
 ·exact NX hE hc ho ht h hn
theorem zB{τ:Ty}{n:Nat}(h:ve τ n=true): ∃e,fy [.gG n] τ (.slice e)=true∧yW τ n=some (.slice e):=by
 unfold ve at h
 split at h
 ·rename_i e he
  exact⟨e,by simp[fy,he],he⟩
 ·cases h
theorem rn{τ:Ty}{n:Nat}{e:Ty}(h:fy [.gG n] τ (.slice e)=true):ve τ n=true:=by
 unfold fy at h
 unfold ve
 split at h
 ·rename_i a ha
  rw[ha]
  rw[show a= .slice e from bt h]
 ·cases h
theorem Gz{τ:Ty}{n:Nat}(h:ve τ n=true):τ.isAgg=true:=by
 cases τ<;>first|rfl|(simp[ve,yW]at h)
theorem XH(hE:EnvTy P E)(hc:Core c σ a.tmps w M ν){t:TypeId}{x:Operand}(ho:o.op= .load t x){K:gL α}{τ:Ty}(ht:E.ty t=some τ)
  (h:AP E τ (σ.ρ x) σ.H K=some r) (hn:fH c σ a o w M ν K r next):o.wp P a w next Q:=by
 unfold AP at h
 split at h
 ·rename_i id U7 hx
  split at h
  ·rename_i υ z n j bg
   obtain⟨e,h⟩:=bw h
   subst e
   obtain⟨b,cs,te,ka,e0,hb,hg,hM,hr,tU,h1,hq,eT,hj⟩:=hc.mem.linked bg
   have hv:=hc.ev x
   rw[hx]at hv
   simp only[VR]at hv
   obtain⟨e1,Gy,lR⟩:=hv
   rw[bg]at Gy;cases Gy
   simp only[AR]at lR
   obtain⟨hi,b',fa,hu⟩:=lR
   rw[hb]at fa;cases fa
   have hl:cs.toList.length=υ.size:=by rw[tU,eH (by simp only[aJ];omega),hr.length]
   refine a6 (Gt (P:=P) (cs:=cs.toList) ho (hE.ty t _ ht) (Gz (rn hq)) hu ?_ hl) (hn (.Jh υ z n j) _ [] _ _ M ν h (.refl hc.mem) ?_)
   ·have:=At.of_block hg 0 cs.toList.length
    rw[cV,gN]at this
    exact this
   ·simp only[VR]
    exact⟨_,ka,rfl,hr,by simpa [cy]using tU,hj,rn hq⟩
  ·exact TB hE hc ho ht h λv rd ups v' w' M' ν' h1 h2 h3=>hn v (id::rd) ups v' w' M' ν' h1 h2 h3
 ·exact TB hE hc ho ht h hn
theorem Fz.own{H H1:Nat→Option bp}(h:Fz H H1){i:Nat}{e:Ty}{l:List e.den}(hi:H i=some (.own e l)):H1 i=some (.own e l)∨H1 i=some (.pq e l):=by
 rcases h i with h'|⟨e',l',h1,h2⟩
 ·exact .inl (by rw[h',hi])
 ·rw[hi]at h1;cases h1;exact .inr h2
theorem U8(hE:EnvTy P E)(hc:Core c σ a.tmps w M ν){t:TypeId}{x y:Operand}(ho:o.op= .store t x y){K:gL α}{τ:Ty}(ht:E.ty t=some τ)
  (h:m2 τ (σ.ρ x) (σ.ρ y) σ.H K=some r) (hn:fH c σ a o w M ν K r next):o.wp P a w next Q:=by
 unfold m2 at h
 split at h
 ·rename_i id p hx
  obtain⟨z,rd,ups,M',h,gi,hV,hz,kB⟩:=la (.refl _) hc.mem (hc.ev y) h
  have hv:=hc.ev x
  rw[hx]at hv
  have hvz:=VR.bZ gi.bZ gi.goes hv
  have y6:=hE.ty t τ ht
  have Fo:=hV.cells.length
  rw[bn]at Fo
  split at h
  ·rename_i υ x0 bg
   have qi:=hz.obj bg
   obtain⟨x1,hK,DH,I4,rY⟩:=pN h
   simp only[VR]at hvz
   obtain⟨e1,Gy,lR⟩:=hvz
   rw[qi]at Gy;cases Gy
   simp only[AR]at lR
   obtain⟨hi,b,hb,hu⟩:=lR
   have kO:=gi.mem.jO id _ qi
   simp only[ER]at kO
   obtain⟨b',cs,te,fa,hg,hM,hr⟩:=kO
   rw[hb]at fa;cases fa
   have I4:=I4 hi
   have hlc:=hr.length
   rw[bn]at hlc
   have dC:=lQ (P:=P) ho y6 hu hg Fo ω hV.cells.lM
   rw[bn]at dC
   have xj:Tr c (cP σ.H ups) w M' ν (ca (cP σ.H ups) id (some (.obj υ x1))) (w.setRow b (eN cs.toList (cy p υ) (a.eval y).cells.toList).toArray) M' ν:=by
    refine Tr.write (e':= .obj υ x1) gi.mem qi trivial trivial rfl (by rw[hb];rfl) hg λJ4 hk xk=> ?_
    simp only[ER]
    refine⟨b,_,te,hb,setRow_heap w b cs _ te _ hg,xk,?_⟩
    exact(rY w M' cs.toList _ hi hr hV.cells).bZ hk
   refine oT dC ?_
   refine hn _ _ _ _ _ M' ν hK ?_ (by simp[VR])
   rw[eY]
   have:=gi.trans xj
   unfold eN at this
   rw[bn]at this
   exact this
  ·rename_i e l bg
   split at h
   ·rename_i i q h0
    obtain⟨AZ,h⟩:=nn h
    have qi:cP σ.H ups id=some (.own e l):=by rw[kB id AZ];exact bg
    obtain⟨y1,hK,DH,I4,rY⟩:=pN h
    simp only[VR]at hvz
    obtain⟨e1,Gy,lR⟩:=hvz
    rw[qi]at Gy;cases Gy
    simp only[AR]at lR
    obtain⟨i',q',hpq,Fm,hi,b,n,cp,hb,hu⟩:=lR
    cases hpq
    have kO:=gi.mem.jO id _ qi
    simp only[ER]at kO
    rcases kO with⟨rfl,_⟩|⟨b',cs,te,cap,fa,hg,hM,Tz,hl,Fl,hs,hr⟩
    ·simp at Fm
    ·rw[hb]at fa;cases fa
     have I4:=I4 hi
     have tT:=ew (s:=e.size) Fm
     have yw:l.length*e.size≤cp*e.size:=kv _ hl
     have dC:=lQ (P:=P) ho y6 hu hg Fo ω hV.cells.lM
     rw[bn]at dC
     have hri:=hr i Fm
     rw[←lN l i e.zero Fm]at hri
     have oI:=rY w M' _ _ hi hri hV.cells
     have hch:((cs.toList.drop (i*e.size)).take e.size).length=e.size:=hri.length
     have abJ:eN cs.toList (i*e.size) (eN ((cs.toList.drop (i*e.size)).take e.size) (cy q e) (a.eval y).cells.toList)=eN cs.toList (i*e.size+cy q e) (a.eval y).cells.toList:=by
      have hl3:=oI.length
      have e1:cs.toList=cs.toList.take (i*e.size)++(((cs.toList.drop (i*e.size)).take e.size)++cs.toList.drop (i*e.size+e.size)):=by
       rw[←iC,gM,gM]
      have eT:(cs.toList.take (i*e.size)).length=i*e.size:=by rw[bV,bn];omega
      conv=>rhs;rw[e1]
      rw[show i*e.size+cy q e=(cs.toList.take (i*e.size)).length+cy q e from by rw[eT],yr,AS (by rw[hch,bn];omega)]
      generalize eN ((cs.toList.drop (i*e.size)).take e.size) (cy q e) (a.eval y).cells.toList=m at hl3 ⊢
      unfold eN
      rw[hl3,bE]
     have xj:Tr c (cP σ.H ups) w M' ν (ca (cP σ.H ups) id (some (.own e (List.set l i y1)))) (w.setRow b (eN cs.toList (i*e.size+cy q e) (a.eval y).cells.toList).toArray) M' ν:=by
      refine Tr.write (e':= .own e (List.set l i y1)) gi.mem qi trivial trivial ⟨rfl,by rw[bP]⟩ (by rw[hb];simp[fC];omega) hg λJ4 hk xk=> ?_
      simp only[ER]
      refine .inr ⟨b,_,te,cp,by rw[bP];exact hb,setRow_heap w b cs _ te _ hg,xk,Tz,by rw[bP];exact hl,Fl,?_,?_⟩
      ·rw[←abJ,jg,eH (by rw[oI.length,bn];omega),bn];exact hs
      ·have h9:cs.toList.length=cp*e.size:=by rw[bn,hs]
       have h10:=pv.set (w:=w) (M:=M') (cs:=cs.toList) (l:=l) hr (by rw[h9];exact yw) Fm oI
       rw[abJ]at h10
       exact λj hj=>(h10 j hj).bZ hk
     refine oT dC ?_
     refine hn _ _ _ _ _ M' ν hK ?_ (by simp[VR])
     rw[eY]
     have:=gi.trans xj
     unfold eN at this
     rw[bn]at this
     exact this
   ·cases h
  ·cases h
 ·cases h
theorem Fz.gg{H H1:Nat→Option bp}(h:Fz H H1){i:Nat}{τ:Ty}{x:τ.den}{p:List Step}{j:Nat}(hi:H i=some (.gg τ x p j)):H1 i=some (.gg τ x p j):=by
 rcases h i with h'|⟨e',l',h1,h2⟩
 ·rw[h',hi]
 ·rw[hi]at h1;cases h1
theorem zC{β:Type}{l a:List β}{o:Nat}(hl:o+a.length≤l.length)(i:Nat):(eN l o a)[i]? =if o≤i∧i<o+a.length then a[i-o]? else l[i]? :=by
 unfold eN
 by_cases h1:i<o
 ·rw[ah ω,bE,tc (by simp;omega),mR,aj h1]
 ·by_cases h2:i<o+a.length
  ·rw[aj ω,tc (by simp;omega),pj (by simp;omega)]
   simp[ij (show o≤l.length by omega)]
  ·rw[ah ω,pj (by simp;omega)]
   simp only[aS,bV,ij (show o≤l.length by omega),mS]
   congr 1;omega
theorem NY{β:Type}{l a b:List β}{o o':Nat}(h:o'≤o∧o+a.length≤o'+b.length)(h1:o+a.length≤l.length)(h2:o'+b.length≤l.length):eN (eN l o a) o' b=eN l o' b:=by
 have l1:=eH (a:=l) (o:=o) (new:=a) h1
 apply Ay
 intro i
 rw[zC ω,zC ω,zC ω]
 by_cases c1:o'≤i∧i<o'+b.length
 ·rw[aj c1,aj c1]
 ·rw[ah c1,ah c1,ah ω]
theorem uA{β:Type}{l:List β}{o:Nat}{u v:β}(h:o<l.length):eN (eN l o [u]) o [v]=eN l o [v]:=
 NY (by simp) (by simp;omega) (by simp;omega)
theorem NZ{β:Type}{l a b:List β}{o o':Nat}(h:o+a.length≤o'∨o'+b.length≤o)(h1:o+a.length≤l.length)(h2:o'+b.length≤l.length):eN (eN l o a) o' b=eN (eN l o' b) o a:=by
 have l1:=eH (a:=l) (o:=o) (new:=a) h1
 have l2:=eH (a:=l) (o:=o') (new:=b) h2
 apply Ay
 intro i
 rw[zC ω,zC ω,zC ω,zC ω]
 by_cases c1:o'≤i∧i<o'+b.length
 ·rw[aj c1,ah ω,aj c1]
 ·rw[ah c1]
  by_cases c2:o≤i∧i<o+a.length
  ·rw[aj c2,aj c2]
  ·rw[ah c2,ah c2,ah c1]
theorem N0{m:(υ:Ty)→υ.den→(υ.den→Option α)→Option α}: ∀{τ:Ty} {x:τ.den} {n:Nat} {k:τ.den→Option α},fX τ x n m k=some r→ ∃υ y o k',DC τ x n υ y o∧m υ y k'=some r:=λh=>by
 obtain⟨υ,y,o,k',h1,h2,_⟩:=ld h
 exact⟨υ,y,o,k',h1,h2⟩
theorem GA{υ:Ty}{u:υ.den}: ∀{p:List Step} {τ:Ty} {x:τ.den} {k:τ.den→Option α},wx υ u p τ x k=some r→ ∃y o,Lu p τ x υ y o
 |[],τ,x,k,h=>by
  obtain⟨e,_⟩:=bw (h:cJ υ τ u k=some r)
  subst e
  exact⟨x,0,.nil x⟩
 | .gG n::p,τ,x,k,h=>by
  obtain⟨υ',y,o,k',hf,hm⟩:=N0 (h:fX τ x n _ k=some r)
  obtain⟨y',o',hp⟩:=GA (k:=k') hm
  exact⟨y',_,.gG hf hp⟩
 | .idx i::p,τ,x,k,h=>by
  cases τ with
  |arr n e=>
   obtain⟨y',o',hp⟩:=GA (p:=p) (τ:=e) (x:=γ x i e.zero) (k:=λz=>k (List.set x i z)) h
   exact⟨y',_,.idx hp⟩
  |_=>simp[wx,Fh]at h
theorem J7: ∀{p q:List Step} {τ e:Ty},yV p q=true→fy q τ (.slice e)=true→cy p τ≤cy q τ∧cy q τ+1≤cy p τ+(Jk p τ).size
 |[],q,τ,e,_,hq=>by
  obtain⟨_,_,y5⟩:=uy hq τ.zero
  have:=y5.bound (lO hq).1
  have h2:=y5.eq.2
  have:(Ty.slice e).size=1:=rfl
  simp only[cy,Jk]
  omega
 | .gG a::p,.gG b::q,τ,e,hp,hq=>by
  simp only[yV,bM]at hp
  have:=fF hp.1
  subst this
  unfold fy at hq
  split at hq
  ·rename_i c hc
   obtain⟨_,_,hf⟩:=kZ hc τ.zero
   have:=hf.eq.1
   subst this
   have:=J7 hp.2 hq
   simp only[cy,Jk]
   omega
  ·cases hq
 | .gG _::_,[],_,_,hp,_| .gG _::_,.idx _::_,_,_,hp,_| .idx _::_,_,_,_,hp,_=>by simp[yV]at hp
theorem ER.U9{H:Nat→Option bp}(hm:Mem c H w M ν){k:Nat}{e:Ty}{l:List e.den}(hk:H k=some (.own e l)): ∃ad cp,ν k= .slice ad l.length cp:=by
 have:=hm.jO k _ hk
 simp only[ER]at this
 rcases this with⟨rfl,a,hv⟩|⟨b,cs,t,cap,hv,_⟩
 ·exact⟨a,0,hv⟩
 ·exact⟨_,cap,hv⟩
theorem vi(hE:EnvTy P E)(hc:Core c σ a.tmps w M ν){t:TypeId}{x y:Operand}(ho:o.op= .store t x y){K:gL α}{τ:Ty}(ht:E.ty t=some τ){id k:Nat}{q:List Step}{e:Ty}{υ:Ty}{z:υ.den}
  (hx:σ.ρ x= .jd id q) (hy:σ.ρ y= .ref k) {en:bp} (bg:σ.H id=some en) (hen:en.mut) (A0:en.lP (.gg υ z q k)) (hq:fy q υ (.slice e)=true)
  (lf: ∃b cs te ka u,ν id= .pointer (some ⟨b,0,none⟩)∧w.heap[b]? =some (.cells cs te (0,0))∧Rd w M υ ka z∧cs.toList=eN ka (cy q υ) [u])
  (h:zh τ id k e q υ z σ.H K=some r) (hn:fH c σ a o w M ν K r next):o.wp P a w next Q:=by
 unfold zh at h
 split at h
 ·rename_i e' l hk
  obtain⟨e1,h1⟩:=dU h
  clear h
  subst e1
  obtain⟨e2,h2⟩:=dU h1
  clear h1
  subst e2
  obtain⟨z',hK,DH,I4,rY⟩:=pN h2
  obtain⟨b,cs,te,ka,u,hb,hg,hr,tU⟩:=lf
  have RN:=(lO hq).1
  obtain⟨ad,cp,hνk⟩:=ER.U9 hc.mem hk
  have A2:=hc.ev y
  rw[hy]at A2
  simp only[VR]at A2
  have A2:=A2.2
  have I4:=I4 RN
  have hlen:=hr.length
  have Nh:(Ty.slice e').size=1:=rfl
  have eT:cy q υ<ka.length:=ω
  have Fo:cs.toList.length=ka.length:=by rw[tU];exact eH (by simp;omega)
  have hv:=hc.ev x
  rw[hx]at hv
  simp only[VR]at hv
  obtain⟨e3,he3,lR⟩:=hv
  rw[bg]at he3;cases he3
  have lR:=lR.lP A0
  simp only[AR]at lR
  obtain⟨_,b',fa,hu⟩:=lR
  rw[hb]at fa;cases fa
  have hyc:(a.eval y).cells.toList=[ν k]:=by rw[A2,hνk];rfl
  have qB:(a.eval y).cells.size=(Ty.slice e').size:=by rw[←bn,hyc];rfl
  have dC:=lQ (P:=P) ho (hE.ty t _ ht) hu hg qB (by rw[←bn];omega) (by rw[hyc,hνk];simp[Value.oneCell'])
  have oI:(cs.toList.take (cy q υ)++(a.eval y).cells.toList++cs.toList.drop (cy q υ+(a.eval y).cells.toList.length))=eN ka (cy q υ) [ν k]:=by
   rw[hyc]
   show eN cs.toList (cy q υ) [ν k]=_
   rw[tU,uA eT]
  rw[oI]at dC
  have hrz:Rd w M υ (eN ka (cy q υ) [.slice none 0 0]) z':=rY w M ka [.slice none 0 0] RN hr (Rd.zero w M (.slice e'))
  have gi:Tr c σ.H w M ν (ca σ.H id (some (.gg υ z' q k))) (w.setRow b (eN ka (cy q υ) [ν k]).toArray) M ν:=by
   refine Tr.write (e':= .gg υ z' q k) hc.mem bg hen trivial (by cases en<;>simp only[bp.lP]at A0 ⊢ <;>exact A0) (by rw[hb];rfl) hg (λJ4 A3 xk=> ?_) (fun τ' x' p' j' hl=> ?_)
   ·simp only[ER]
    refine⟨b,_,te,eN ka (cy q υ) [.slice none 0 0],ν k,hb,setRow_heap w b cs _ te _ hg,xk,hrz.bZ A3,?_,by rw[hνk];rfl,e',hq⟩
    rw[uA eT]
   ·cases hl
    refine⟨by rw[hk];simp,b,hb,?_⟩
    rw[cell_of (setRow_heap w b cs _ te _ hg),←iA]
    show(eN ka (cy q υ) [ν k])[cy q υ]? =_
    rw[yt eT]
  exact oT dC (hn _ _ _ _ _ M ν hK gi (by simp[VR]))
 ·cases h
theorem GB(hE:EnvTy P E)(hc:Core c σ a.tmps w M ν){t:TypeId}{x y:Operand}(ho:o.op= .store t x y){K:gL α}{τ:Ty}(ht:E.ty t=some τ)
  (h:kV E τ (σ.ρ x) (σ.ρ y) σ.H K=some r) (hn:fH c σ a o w M ν K r next):o.wp P a w next Q:=by
 have hold:m2 τ (σ.ρ x) (σ.ρ y) σ.H K=some r→o.wp P a w next Q:=λh=>U8 hE hc ho ht h hn
 unfold kV at h
 simp only at h
 split at h
 ·rename_i id p hx
  have oO:=hx
  split at h
  ·rename_i υ z bg
   split at h
   ·rename_i q e k qA hy
    cases hp:Jg p q
    ·rw[hp]at h;exact hold h
    ·rw[hp]at h
     simp only[ak]at h
     have:=zy hp
     subst this
     have hq:=rX qA
     have kO:=hc.mem.jO id _ bg
     simp only[ER]at kO
     obtain⟨b,cs,te,hb,hg,hM,hr⟩:=kO
     have eT:cy p υ<cs.toList.length:=by
      obtain⟨_,_,y5⟩:=uy hq z
      have:=y5.bound (lO hq).1
      have h2:=y5.eq.2
      have:=hr.length
      have:(Ty.slice e).size=1:=rfl
      omega
     refine vi hE hc ho ht hx hy bg trivial rfl hq ⟨b,cs,te,cs.toList,cs.toList[cy p υ],hb,hg,hr,?_⟩ h hn
     exact(xd (bm eT)).symm
   ·exact hold h
  ·rename_i υ z q j bg
   obtain⟨b,cs,te,ka,e0,hb,hg,hM,hr,tU,h1,hq,eT,hj⟩:=hc.mem.linked bg
   have A4:m0 true (σ.ρ y) σ.H τ (λy rd ups=>wx τ y p υ z λz=>K .any (id::rd) (ups++[(id,some (cond (yV p q) (.obj υ z) (.gg υ z q j)))]))=some r→o.wp P a w next Q:=by
    intro h
    obtain⟨u,rd,ups,M',h,gi,hV,hz,kB⟩:=la (.refl _) hc.mem (hc.ev y) h
    have qi:=hz.gg bg
    have hv:=hc.ev x
    rw[hx]at hv
    have hvz:=VR.bZ gi.bZ gi.goes hv
    simp only[VR]at hvz
    obtain⟨e1,Gy,lR⟩:=hvz
    rw[qi]at Gy;cases Gy
    simp only[AR]at lR
    obtain⟨hi,b1,nk,hu⟩:=lR
    rw[hb]at nk;cases nk
    obtain⟨b2,TC,te2,cs3,e3,uX,XG,Ly,zA,abL,h12,hq2,aoK,hj2⟩:=gi.mem.linked qi
    rw[hb]at uX;cases uX
    rw[hg]at XG;cases XG
    obtain⟨z',hK,DH,I4,rY⟩:=pN h
    have I4:=I4 hi
    have hlc:=zA.length
    have Fo:cs.toList.length=cs3.length:=by rw[abL];exact eH (by simp;omega)
    have hcy:=hV.cells.length
    rw[bn]at hcy
    have aBX:(a.eval y).cells.toList.length=τ.size:=by rw[bn];exact hcy
    have dC:=lQ (P:=P) ho (hE.ty t _ ht) hu hg hcy (by rw[←bn];omega) hV.cells.lM
    have N1:cs.toList.take (cy p υ)++(a.eval y).cells.toList++cs.toList.drop (cy p υ+(a.eval y).cells.toList.length)=eN cs.toList (cy p υ) (a.eval y).cells.toList:=rfl
    rw[N1]at dC
    have hzr:=rY w M' cs3 _ hi zA hV.cells
    have fin: ∀e',e'.mut→bp.lP (.gg υ z q j) e'→K .any (id::rd) (ups++[(id,some e')])=some r→(∀J4,fO w M' (w.setRow b (eN cs.toList (cy p υ) (a.eval y).cells.toList).toArray) J4→J4 b→ER (w.setRow b (eN cs.toList (cy p υ) (a.eval y).cells.toList).toArray) J4 (ν id) e')→
      (∀τ' x' p' j',e'= .gg τ' x' p' j'→(cP σ.H ups) j'≠none∧ ∃b',ν id= .pointer (some ⟨b',0,none⟩)∧(w.setRow b (eN cs.toList (cy p υ) (a.eval y).cells.toList).toArray).cell? ⟨b',cy p' τ',none⟩=some (ν j'))→o.wp P a w next Q:=by
     intro e' jv I1 hK U3 qA
     have xj:=Tr.write (e':=e') gi.mem qi trivial jv I1 (by rw[hb];rfl) hg U3 qA
     refine oT dC (hn _ _ _ _ _ M' ν hK ?_ (by simp[VR]))
     rw[eY]
     exact gi.trans xj
    cases I2:yV p q
    ·rw[I2]at hK
     simp only[av]at hK
     obtain⟨yy,oo,y5⟩: ∃y o,Lu p υ z τ y o:=GA h
     have hap:=y5.apart hi hq I2
     have hoo:=y5.eq.2
     subst hoo
     have aij:eN cs.toList (cy p υ) (a.eval y).cells.toList=eN (eN cs3 (cy p υ) (a.eval y).cells.toList) (cy q υ) [ν j]:=by
      rw[abL]
      exact NZ (by simp only[aJ];omega) (by simp only[aJ];omega) ω
     have hl3:=eH (a:=cs3) (o:=cy p υ) (new:=(a.eval y).cells.toList) ω
     refine fin (.gg υ z' q j) trivial rfl hK (λJ4 hk xk=> ?_) (fun τ' x' p' j' hl=> ?_)
     ·simp only[ER]
      exact⟨b,_,te,_,ν j,hb,setRow_heap w b cs _ te _ hg,xk,hzr.bZ hk,aij,h1,e0,hq⟩
     ·cases hl
      refine⟨hj2,b,hb,?_⟩
      rw[cell_of (setRow_heap w b cs _ te _ hg),←iA]
      show(eN cs.toList (cy p υ) (a.eval y).cells.toList)[cy q υ]? =_
      rw[aij,yt ω]
    ·rw[I2]at hK
     simp only[ak]at hK
     refine fin (.obj υ z') trivial rfl hK (λJ4 hk xk=> ?_) (fun τ' x' p' j' hl=>by cases hl)
     simp only[ER]
     refine⟨b,_,te,hb,setRow_heap w b cs _ te _ hg,xk,?_⟩
     show Rd _ _ υ (eN cs.toList (cy p υ) (a.eval y).cells.toList) z'
     have kC:=J7 I2 hq
     rw[DH]at kC
     have ho:eN cs.toList (cy p υ) (a.eval y).cells.toList=eN cs3 (cy p υ) (a.eval y).cells.toList:=by
      rw[abL]
      exact NY (by simp only[aJ];omega) (by simp only[aJ];omega) ω
     have h9:=hzr.bZ hk
     rw[←ho]at h9
     exact h9
   split at h
   ·rename_i q' e k qA hy
    cases hp:(Jg p q&&Jg q q')
    ·rw[hp]at h;exact A4 h
    ·rw[hp]at h
     simp only[ak]at h
     rw[bM]at hp
     have:=zy hp.1
     subst this
     have:=zy hp.2
     subst this
     refine vi hE hc ho ht hx hy bg trivial rfl (rX qA) ⟨b,cs,te,ka,ν j,hb,hg,hr,tU⟩ h hn
   ·exact A4 h
  ·exact hold h
 ·exact hold h
theorem Va(hE:EnvTy P E)(hc:Core c σ a.tmps w M ν){t:TypeId}{x y:Operand}(ho:o.op= .store t x y){K:gL α}{τ:Ty}(ht:E.ty t=some τ)
  (h:tP E τ (σ.ρ x) (σ.ρ y) σ.H K=some r) (hn:fH c σ a o w M ν K r next):o.wp P a w next Q:=by
 unfold tP at h
 split at h
 ·rename_i id υ z n hx hy
  split at h
  ·rename_i m e qA
   cases Cp:Nat.beq m n
   ·rw[Cp]at h
    simp only[av]at h
    exact GB hE hc ho ht h hn
   ·rw[Cp]at h
    simp only[ak]at h
    have Cp:=fF Cp
    subst Cp
    obtain⟨e1,h1⟩:=dU h
    clear h
    subst e1
    have hq:=rX qA
    have A2:=hc.ev y
    rw[hy]at A2
    simp only[VR]at A2
    obtain⟨hV,cs,ad,hva,hz⟩:=A2
    have hcy:(a.eval y).cells=cs:=by rw[hva];rfl
    obtain⟨en,bg,hen,hK⟩: ∃en:bp,σ.H id=some en∧(∃z0,en= .obj τ z0∨ ∃q j,en= .gg τ z0 q j)∧σ.H (id+2)=none∧K .any [id,id+2] [(id,some (.gg τ z [.gG m] (id+2))),(id+2,some (.own e []))]=some r:=by
     unfold mf at h1
     split at h1
     ·rename_i υ z0 bg
      obtain⟨e2,h2⟩:=dU h1
      clear h1
      subst e2
      obtain⟨h3,h4⟩:=mC h2
      exact⟨_,bg,⟨z0,.inl rfl⟩,h3,h4⟩
     ·rename_i υ z0 q j bg
      obtain⟨e2,h2⟩:=dU h1
      clear h1
      subst e2
      obtain⟨h3,h4⟩:=mC h2
      exact⟨_,bg,⟨z0,.inr ⟨q,j,rfl⟩⟩,h3,h4⟩
     ·cases h1
     ·cases h1
     ·cases h1
    obtain⟨hk,hK⟩:=hK
    have ajS:en.mut:=by rcases hen with⟨z0,rfl|⟨q,j,rfl⟩⟩<;>trivial
    have A0:en.lP (.obj τ z):=by rcases hen with⟨z0,rfl|⟨q,j,rfl⟩⟩<;>rfl
    obtain⟨b,ka,te,hb,hg,qB⟩: ∃b ka te,ν id= .pointer (some ⟨b,0,none⟩)∧w.heap[b]? =some (.cells ka te (0,0))∧ka.toList.length=τ.size:=by
     rcases hen with⟨z0,rfl|⟨q,j,rfl⟩⟩
     ·have:=hc.mem.jO id _ bg
      simp only[ER]at this
      obtain⟨b,ka,te,h2,h3,_,h5⟩:=this
      exact⟨b,ka,te,h2,h3,h5.length⟩
     ·obtain⟨b,ka,te,zD,_,h2,h3,_,h5,h6,_,_,h7,_⟩:=hc.mem.linked bg
      refine⟨b,ka,te,h2,h3,?_⟩
      rw[h6,eH (by simp only[aJ];omega),h5.length]
    have hv:=hc.ev x
    rw[hx]at hv
    simp only[VR]at hv
    obtain⟨e3,he3,lR⟩:=hv
    rw[bg]at he3;cases he3
    have lR:=lR.lP A0
    simp only[AR]at lR
    obtain⟨_,b',fa,hu⟩:=lR
    rw[hb]at fa;cases fa
    have Fo:=hV.cells.length
    have dC:=lQ (P:=P) ho (hE.ty t _ ht) hu hg (by rw[←bn];exact Fo) (by rw[←bn,qB];simp[cy]) hV.cells.lM
    have N1:ka.toList.take (cy [] τ)++(a.eval y).cells.toList++ka.toList.drop (cy [] τ+(a.eval y).cells.toList.length)=(a.eval y).cells.toList:=by
     simp only[cy,mU,cN,gn]
     rw[jf ω,cw]
    rw[N1]at dC
    have rY:=setRow_heap w b ka (a.eval y).cells.toList.toArray te _ hg
    have gi:=Tr.write (e':= .obj τ z) (new:=(a.eval y).cells.toList.toArray) hc.mem bg ajS trivial A0 (by rw[hb];rfl) hg (λJ4 A3 xk=>by
     simp only[ER]
     exact⟨b,_,te,hb,rY,xk,hV.cells.bZ A3⟩)
    have ko:id+2≠id:=ω
    have xj:=Tr.XE gi.mem (id:=id) (k:=id+2) (by rw[az _ _ ko];exact hk) (ay _ _ _) hb rY hq (ad:=ad) (by rw[hcy];simpa [cy]using hz)
    have e1:cP (ca σ.H id (some (.obj τ z))) [(id,some (.gg τ z [.gG m] (id+2))),(id+2,some (.own e []))]=cP σ.H [(id,some (.gg τ z [.gG m] (id+2))),(id+2,some (.own e []))]:=by
     show ca (ca (ca σ.H id _) id _) (id+2) _=ca (ca σ.H id _) (id+2) _
     rw[zz]
    rw[e1]at xj
    exact oT dC (hn _ _ _ _ _ _ _ hK (gi.trans xj) (by simp[VR]))
  ·exact GB hE hc ho ht h hn
 ·exact GB hE hc ho ht h hn
theorem Cr(hE:EnvTy P E)(hc:Core c σ a.tmps w M ν){t:TypeId}{x y:Operand}(ho:o.op= .store t x y){K:gL α}{τ:Ty}(ht:E.ty t=some τ)
  (h:tQ E τ (σ.ρ x) (σ.ρ y) σ.H K=some r) (hn:fH c σ a o w M ν K r next):o.wp P a w next Q:=by
 unfold tQ at h
 split at h
 ·rename_i id υ z n j hx hy
  split at h
  ·rename_i m e qA
   obtain⟨Cp,h0⟩:=cz h
   clear h
   have Cp:=fF Cp
   subst Cp
   obtain⟨e1,h1⟩:=dU h0
   clear h0
   subst e1
   have hq:=rX qA
   have A2:=hc.ev y
   rw[hy]at A2
   simp only[VR]at A2
   obtain⟨cs,ka,hva,hzr,tU,hj,wC⟩:=A2
   have hcy:(a.eval y).cells=cs:=by rw[hva];rfl
   obtain⟨en,bg,hen,h2⟩: ∃en:bp,σ.H id=some en∧(∃z0,en= .obj τ z0∨ ∃q j,en= .gg τ z0 q j)∧(match σ.H j with
    |some (.own e' _)=>js e' e (K .any [id,j] [(id,some (.gg τ z [.gG m] j))])
    |_=>none)=some r:=by
    unfold mf at h1
    split at h1
    ·rename_i υ z0 bg
     obtain⟨e2,h2⟩:=dU h1
     clear h1
     subst e2
     exact⟨_,bg,⟨z0,.inl rfl⟩,h2⟩
    ·rename_i υ z0 q j bg
     obtain⟨e2,h2⟩:=dU h1
     clear h1
     subst e2
     exact⟨_,bg,⟨z0,.inr ⟨q,j,rfl⟩⟩,h2⟩
    ·cases h1
    ·cases h1
    ·cases h1
   obtain⟨l,AY,hK⟩: ∃l,σ.H j=some (.own e l)∧K .any [id,j] [(id,some (.gg τ z [.gG m] j))]=some r:=by
    split at h2
    ·rename_i e' l AY
     obtain⟨e3,h3⟩:=dU h2
     clear h2
     subst e3
     exact⟨l,AY,h3⟩
    ·cases h2
   have Cm:(ν j).oneCell'=true:=by
    have:=hc.mem.jO j _ AY
    simp only[ER]at this
    rcases this with⟨_,ad,hv⟩|⟨b,cs,t,cap,hv,_⟩<;>rw[hv]<;>rfl
   have ajS:en.mut:=by rcases hen with⟨z0,rfl|⟨q,j,rfl⟩⟩<;>trivial
   have A0:en.lP (.gg τ z [.gG m] j):=by rcases hen with⟨z0,rfl|⟨q,j,rfl⟩⟩<;>rfl
   obtain⟨b,TC,te,hb,hg,qB⟩: ∃b TC te,ν id= .pointer (some ⟨b,0,none⟩)∧w.heap[b]? =some (.cells TC te (0,0))∧TC.toList.length=τ.size:=by
    rcases hen with⟨z0,rfl|⟨q,j,rfl⟩⟩
    ·have:=hc.mem.jO id _ bg
     simp only[ER]at this
     obtain⟨b,ka,te,h2,h3,_,h5⟩:=this
     exact⟨b,ka,te,h2,h3,h5.length⟩
    ·obtain⟨b,ka,te,zD,_,h2,h3,_,h5,h6,_,_,h7,_⟩:=hc.mem.linked bg
     refine⟨b,ka,te,h2,h3,?_⟩
     rw[h6,eH (by simp only[aJ];omega),h5.length]
   have hv:=hc.ev x
   rw[hx]at hv
   simp only[VR]at hv
   obtain⟨e3,he3,lR⟩:=hv
   rw[bg]at he3;cases he3
   have lR:=lR.lP A0
   simp only[AR]at lR
   obtain⟨_,b',fa,hu⟩:=lR
   rw[hb]at fa;cases fa
   obtain⟨y0,o0,hf0⟩:=kZ (zB wC).choose_spec.2 z
   have hfb:=hf0.bound
   rw[hf0.eq.2]at hfb
   have Nh:(Ty.slice (zB wC).choose).size=1:=rfl
   rw[Nh]at hfb
   have hl0:=hzr.length
   have eT:gq τ m<ka.length:=ω
   have Fo:cs.toList.length=τ.size:=by rw[tU,eH (by simp only[aJ];omega),hl0]
   have ajT: ∀v∈cs.toList,v.oneCell'=true:=by
    intro v hv
    rw[tU]at hv
    unfold eN at hv
    simp only[bk,cn]at hv
    rcases hv with(hv|hv)|hv
    ·exact hzr.lM v (lK hv)
    ·rw[hv];exact Cm
    ·exact hzr.lM v (mP hv)
   have dC:=lQ (P:=P) ho (hE.ty t _ ht) hu hg (by rw[hcy,←bn];exact Fo) (by rw[←bn,qB];simp[cy]) (by rw[hcy];exact ajT)
   have N1:TC.toList.take (cy [] τ)++(a.eval y).cells.toList++TC.toList.drop (cy [] τ+(a.eval y).cells.toList.length)=cs.toList:=by
    rw[hcy]
    simp only[cy,mU,cN,gn]
    rw[jf ω,cw]
   rw[N1]at dC
   have rY:=setRow_heap w b TC cs.toList.toArray te _ hg
   have aoL:cy [.gG m] τ=gq τ m:=by simp[cy]
   have gi:=Tr.write (e':= .gg τ z [.gG m] j) (new:=cs.toList.toArray) hc.mem bg ajS trivial A0 (by rw[hb];rfl) hg (λJ4 A3 xk=>by
    simp only[ER]
    exact⟨b,_,te,ka,ν j,hb,rY,xk,hzr.bZ A3,by rw[aoL];exact tU,Cm,e,hq⟩) (fun τ' x' p' j' hl=>by
    cases hl
    refine⟨hj,b,hb,?_⟩
    rw[cell_of rY,aoL]
    show cs.toList.toArray[gq τ m]? =_
    rw[FV,tU,yt eT])
   exact oT dC (hn _ _ _ _ _ _ _ hK gi (by simp[VR]))
  ·cases h
 ·exact Va hE hc ho ht h hn
theorem Vb(hE:EnvTy P E)(hc:Core c σ a.tmps w M ν){t:TypeId}{x y:Operand}(ho:o.op= .store t x y){K:gL α}{τ:Ty}(ht:E.ty t=some τ)
  (h:rV E τ (σ.ρ x) (σ.ρ y) σ.H K=some r) (hn:fH c σ a o w M ν K r next):o.wp P a w next Q:=by
 unfold rV at h
 split at h
 ·rename_i id n k hx hy
  cases hb:ajG E id n
  ·rw[hb]at h
   exact Cr hE hc ho ht (by rw[hx,hy];exact h) hn
  ·rw[hb]at h
   simp only[ak]at h
   split at h
   ·rename_i υ z q j bg
    cases hp:Jg q [.gG n]
    ·rw[hp]at h
     simp only[av]at h
     split at h
     ·rename_i e Vc
      obtain⟨z',ups,M',h,gi,hfz,_,b,cs,te,hbb,hg,hM,hr⟩:=vh hc.mem bg h
      have hq:fy [.gG n] υ (.slice e)=true:=by simp[fy,Vc]
      have RO:Core c ⟨σ.T,cP σ.H ups⟩ a.tmps w M' ν:=⟨gi.mem,λi=>VR.bZ gi.bZ gi.goes (hc.tmp i)⟩
      have eT:cy [.gG n] υ<cs.toList.length:=by
       obtain⟨y0,o0,hf0⟩:=kZ Vc z'
       have h1:=hf0.bound
       have h2:=hf0.eq.2
       have h3:=hr.length
       have h4:(Ty.slice e).size=1:=rfl
       show gq υ n+0<_
       omega
      refine vi (σ:=⟨σ.T,cP σ.H ups⟩) hE RO ho ht hx hy (hfz.gg bg) trivial rfl hq ⟨b,cs,te,cs.toList,cs.toList[cy [.gG n] υ],hbb,hg,hr,(xd (bm eT)).symm⟩ h ?_
      intro v rd jt v' w' J4 ν'' hK TD hvr
      refine hn v _ _ v' w' J4 ν'' hK ?_ ?_
      ·rw[eY];exact gi.trans TD
      ·rw[eY];exact hvr
     ·cases h
    ·rw[hp]at h
     exact Cr hE hc ho ht (by rw[hx,hy];exact h) λv rd ups v' w' M' ν' h1 h2 h3=>hn v (id::rd) ups v' w' M' ν' h1 h2 h3
   ·rename_i υ z bg
    split at h
    ·rename_i e Vc
     have hq:fy [.gG n] υ (.slice e)=true:=by simp[fy,Vc]
     have kO:=hc.mem.jO id _ bg
     simp only[ER]at kO
     obtain⟨b,cs,te,hbb,hg,hM,hr⟩:=kO
     have eT:cy [.gG n] υ<cs.toList.length:=by
      obtain⟨y0,o0,hf0⟩:=kZ Vc z
      have h1:=hf0.bound
      have h2:=hf0.eq.2
      have h3:=hr.length
      have h4:(Ty.slice e).size=1:=rfl
      show gq υ n+0<_
      omega
     exact vi hE hc ho ht hx hy bg trivial rfl hq ⟨b,cs,te,cs.toList,cs.toList[cy [.gG n] υ],hbb,hg,hr,(xd (bm eT)).symm⟩ h hn
    ·cases h
   ·cases h
 ·exact Cr hE hc ho ht h hn
theorem nb{n:Nat}(h:Nat.beq n 0=false):n≠0:=by rw[←nN,w1]at h;exact h
theorem At.sub{b off:Nat}{cs:List Value}(h:At w b off cs)(o n:Nat):At w b (off+o) ((cs.drop o).take n):=by
 intro j v hj
 rw[mR]at hj
 split at hj
 ·rw[mS]at hj
  have:=h _ v hj
  rwa [←pI]at this
 ·cases hj
def xl:bp→List Step→Option Ty
 | .obj τ _,p=>some (Jk p τ)
 | .gg τ _ _ _,p=>some (Jk p τ)
 | .own e _,.idx _::p| .pq e _,.idx _::p=>some (Jk p e)
 |_,_=>none
theorem GC{id:Nat}{p:List Step}{H:Nat→Option bp}{k:Ty→Option α}(h:mf id p H k=some r): ∃e υ,H id=some e∧xl e p=some υ∧k υ=some r:=by
 unfold mf at h
 split at h
 ·rename_i τ x bg
  obtain⟨υ,y,o,hp,hk⟩:=kY h
  exact⟨_,υ,bg,by simp[xl,hp.eq.1],hk⟩
 ·rename_i τ x _ _ bg
  obtain⟨υ,y,o,hp,hk⟩:=kY h
  exact⟨_,υ,bg,by simp[xl,hp.eq.1],hk⟩
 ·rename_i e l bg
  split at h
  ·obtain⟨υ,y,o,hp,hk⟩:=kY h
   exact⟨_,υ,bg,by simp[xl,hp.eq.1],hk⟩
  ·cases h
 ·rename_i e l bg
  split at h
  ·obtain⟨υ,y,o,hp,hk⟩:=kY h
   exact⟨_,υ,bg,by simp[xl,hp.eq.1],hk⟩
  ·cases h
 ·cases h
theorem AR.step{v:Value}{p:List Step}{u:Value}{e:bp}{υ:Ty}(h:AR v p u e)(ht:xl e p=some υ)(s:Step)(hs:y4 [s] υ):
  ∃b off,u= .pointer (some ⟨b,off,none⟩)∧AR v (p++[s]) (.pointer (some ⟨b,off+cy [s] υ,none⟩)) e:=by
 cases e with
 |obj τ x=>
  simp only[xl,iB]at ht
  simp only[AR]at h ⊢
  obtain⟨hi,b,hb,rfl⟩:=h
  subst ht
  exact⟨b,_,rfl,(ti p [s] τ).2 ⟨hi,hs⟩,b,hb,by rw[th]⟩
 |gg τ x _ _=>
  simp only[xl,iB]at ht
  simp only[AR]at h ⊢
  obtain⟨hi,b,hb,rfl⟩:=h
  subst ht
  exact⟨b,_,rfl,(ti p [s] τ).2 ⟨hi,hs⟩,b,hb,by rw[th]⟩
 |own e l=>
  simp only[AR]at h ⊢
  obtain⟨i,q,rfl,Fm,hi,b,n,cp,hb,rfl⟩:=h
  simp only[xl,iB]at ht
  subst ht
  exact⟨b,_,rfl,i,q++[s],rfl,Fm,(ti q [s] e).2 ⟨hi,hs⟩,b,n,cp,hb,by rw[th,pI]⟩
 |pq e l=>
  simp only[AR]at h ⊢
  obtain⟨i,q,rfl,Fm,hi,b,n,cp,hb,rfl⟩:=h
  simp only[xl,iB]at ht
  subst ht
  exact⟨b,_,rfl,i,q++[s],rfl,Fm,(ti q [s] e).2 ⟨hi,hs⟩,b,n,cp,hb,by rw[th,pI]⟩
 |gone=>simp[xl]at ht
theorem Cs(hE:EnvTy P E)(hc:Core c σ a.tmps w M ν){t:TypeId}{x:Operand}{n:Nat}(ho:o.op= .fieldAddr t x n){K:gL α}{τ:Ty}(ht:E.ty t=some τ){id:Nat}{p:List Step}(hx:σ.ρ x= .jd id p)
  (h:mf id p σ.H (fun υ=>js υ τ (u9 τ τ.zero n fun υ' _=>cond (Nat.beq υ'.size 0) none (K (.jd id (p++[.gG n])) [id] [])))=some r) (hn:fH c σ a o w M ν K r next):o.wp P a w next Q:=by
 obtain⟨e,υ,bg,het,h⟩:=GC h
 obtain⟨he_,h_⟩:=dU h
 clear h
 subst he_
 have h:=h_
 clear h_
 obtain⟨υ',y,of,hf,h⟩:=pM h
 obtain⟨hz,h⟩:=nn h
 have hv:=hc.ev x
 rw[hx]at hv
 simp only[VR]at hv
 obtain⟨e',ub,lR⟩:=hv
 rw[bg]at ub;cases ub
 obtain⟨b,off,hu,ajW⟩:=lR.step het (.gG n) trivial
 obtain⟨fs,f,Ry,hff,hfo,I5⟩:=(hE.ty t υ ht).gG hf
 obtain⟨v,dC,hvv⟩:=uz (P:=P) ho (w:=w) Ry hff I5 (nb hz) hu
 refine a6 dC (hn _ _ _ _ _ M ν h (.refl hc.mem) ?_)
 simp only[VR]
 refine⟨e,bg,?_⟩
 rw[hvv,hfo,hf.eq.2]
 simpa [cy]using ajW
theorem A5(hE:EnvTy P E)(hc:Core c σ a.tmps w M ν){t:TypeId}{x:Operand}{n:Nat}(ho:o.op= .fieldAddr t x n){K:gL α}{τ:Ty}(ht:E.ty t=some τ){υ:Ty}{z:υ.den}(hx:σ.ρ x= .rR υ z)
  (h:js υ τ (u9 υ z n fun υ y=>cond (Nat.beq υ.size 0) none (K (.rR υ y) [] []))=some r) (hn:fH c σ a o w M ν K r next):o.wp P a w next Q:=by
 obtain⟨he,h1⟩:=dU h
 subst he
 obtain⟨υ',y,of,hf,h⟩:=pM h1
 obtain⟨hz,h⟩:=nn h
 have hv:=hc.ev x
 rw[hx]at hv
 simp only[VR]at hv
 obtain⟨b,off,hu,hb,hM,cs,pt,hr⟩:=hv
 obtain⟨fs,f,Ry,hff,hfo,I5⟩:=(hE.ty t υ ht).gG hf
 obtain⟨v,dC,hvv⟩:=uz (P:=P) ho (w:=w) Ry hff I5 (nb hz) hu
 refine a6 dC (hn _ _ _ _ _ M ν h (.refl hc.mem) ?_)
 simp only[VR]
 exact⟨b,off+f.offset,hvv,hb,hM,_,by rw[hfo];exact pt.sub of υ'.size,hf.rd hr⟩
theorem V.agg{τ:Ty}(ha:τ.isAgg=true){v:Value}{x:τ.den}(h:V w M τ v x): ∃cs,v= .agg cs∧Rd w M τ cs.toList x:=by
 unfold V at h;rw[aj ha]at h;exact h
theorem DC.agg{τ:Ty}{x:τ.den}{n:Nat}{υ:Ty}{y:υ.den}{o:Nat}(h:DC τ x n υ y o):τ.isAgg=true:=by cases h<;>rfl
theorem XI(hE:EnvTy P E)(hc:Core c σ a.tmps w M ν){t:TypeId}{x:Operand}{n:Nat}(ho:o.op= .field t x n){K:gL α}{τ:Ty}(ht:E.ty t=some τ){υ:Ty}{z:υ.den}(hx:σ.ρ x= .val υ z)
  (h:js υ τ (u9 υ z n fun υ y=>K (.val υ y) [] [])=some r) (hn:fH c σ a o w M ν K r next):o.wp P a w next Q:=by
 obtain⟨he,h1⟩:=dU h
 subst he
 obtain⟨υ',y,of,hf,h⟩:=pM h1
 have hv:=hc.ev x
 rw[hx]at hv
 simp only[VR]at hv
 obtain⟨cs,hu,hr⟩:=hv.agg hf.agg
 obtain⟨fs,f,Ry,hff,hfo,I5⟩:=(hE.ty t υ ht).gG hf
 have eQ:=hf.rd hr
 refine a6 (Lw ho Ry hff I5 hu (by rw[hfo];exact eQ)) (hn _ _ _ _ _ M ν h (.refl hc.mem) ?_)
 simp only[VR]
 rw[hfo]
 exact V.cg eQ
theorem LA(hE:EnvTy P E)(hc:Core c σ a.tmps w M ν){t:TypeId}{x i:Operand}(ho:o.op= .indexAddr t x i){K:gL α}{τ:Ty}(ht:E.ty t=some τ)
  (h:g9 τ (σ.ρ x) (σ.ρ i) σ.H K=some r) (hn:fH c σ a o w M ν K r next):o.wp P a w next Q:=by
 unfold g9 at h
 obtain⟨k,n,hi,h2⟩:=nX h
 clear h
 have h:=h2
 clear h2
 have TE:=hc.ev i
 rw[hi]at TE
 have TE:=TE.int
 have hv:=hc.ev x
 have y6:=hE.ty t τ ht
 split at h
 ·
  rename_i e
  obtain⟨e',Ry,hle⟩:=y6.slice
  split at h
  ·rename_i υ l hx
   obtain⟨e1,h⟩:=bw h
   subst e1
   obtain⟨kC,h⟩:=cz h
   obtain⟨h0,h1⟩:=vg kC
   have h1:n<(ℓ l:Int):=h1
   rw[hx]at hv
   simp only[VR]at hv
   have hv:=V.slice.1 hv
   simp only[Rd,fV,eF]at hv
   obtain⟨ad,cap,hu,ajX,hr⟩:=hv
   obtain⟨b,off,rfl,hb,hM,cs,pt,kB⟩:=hr n.toNat ω
   refine a6 (mh ho Ry hle hu TE h0 h1) (hn _ _ _ _ _ M ν h (.refl hc.mem) ?_)
   simp only[VR]
   refine⟨b,_,rfl,hb,hM,cs,pt,?_⟩
   have:Rd w M e cs (γ l n.toNat e.zero):=by rw[lN l n.toNat e.zero ω];exact kB
   exact this
  ·rename_i id hx
   rw[hx]at hv
   simp only[VR]at hv
   obtain⟨_,hu⟩:=hv
   split at h
   ·rename_i e2 l bg
    obtain⟨he_,h_⟩:=dU h
    clear h
    subst he_
    have h:=h_
    clear h_
    obtain⟨kC,h⟩:=cz h
    obtain⟨h0,h1⟩:=vg kC
    have kO:=hc.mem.jO id _ bg
    simp only[ER]at kO
    rcases kO with⟨rfl,_⟩|⟨b,cs,te,cap,hb,hg,hM,Tz,hl,Fl,hs,hr⟩
    ·simp at h1;omega
    ·rw[hb]at hu
     refine a6 (mh ho Ry hle hu TE h0 h1) (hn _ _ _ _ _ M ν h (.refl hc.mem) ?_)
     simp only[VR]
     refine⟨_,bg,?_⟩
     simp only[AR]
     exact⟨n.toNat,[],rfl,ω,trivial,b,_,_,hb,by simp[cy]⟩
   ·rename_i e2 l bg
    obtain⟨he_,h_⟩:=dU h
    clear h
    subst he_
    have h:=h_
    clear h_
    obtain⟨kC,h⟩:=cz h
    obtain⟨h0,h1⟩:=vg kC
    have kO:=hc.mem.jO id _ bg
    simp only[ER]at kO
    obtain⟨kB,hhd⟩:=kO
    simp only[Rd,fV,eF]at kB
    obtain⟨ad,cap,hb,ajX,hr⟩:=kB
    rcases hhd with⟨rfl,_⟩|⟨b,n2,c2,uX⟩
    ·simp at h1;omega
    ·rw[hb]at uX;cases uX
     rw[hb]at hu
     refine a6 (mh ho Ry hle hu TE h0 h1) (hn _ _ _ _ _ M ν h (.refl hc.mem) ?_)
     simp only[VR]
     refine⟨_,bg,?_⟩
     simp only[AR]
     exact⟨n.toNat,[],rfl,ω,trivial,b,_,_,hb,by simp[cy]⟩
   ·cases h
  ·cases h
 ·
  rename_i len e
  obtain⟨e',Ry,hle⟩:=y6.arr
  split at h
  ·rename_i id p hx
   obtain⟨en,υ,bg,het,h⟩:=GC h
   obtain⟨he_,h_⟩:=dU h
   clear h
   subst he_
   have h:=h_
   clear h_
   obtain⟨kC,h⟩:=cz h
   obtain⟨h0,h1⟩:=vg kC
   rw[hx]at hv
   simp only[VR]at hv
   obtain⟨en',ub,lR⟩:=hv
   rw[bg]at ub;cases ub
   obtain⟨b,off,hu,ajW⟩:=lR.step het (.idx n.toNat) ⟨⟨len,e,rfl,ω⟩,trivial⟩
   refine a6 (tj ho Ry hle hu TE h0 h1) (hn _ _ _ _ _ M ν h (.refl hc.mem) ?_)
   simp only[VR]
   refine⟨en,bg,?_⟩
   simpa [cy,elT]using ajW
  ·rename_i υ l hx
   obtain⟨e1,h⟩:=bw h
   subst e1
   obtain⟨kC,h⟩:=cz h
   obtain⟨h0,h1⟩:=vg kC
   rw[hx]at hv
   simp only[VR]at hv
   obtain⟨b,off,hu,hb,hM,cs,pt,hr⟩:=hv
   refine a6 (tj ho Ry hle hu TE h0 h1) (hn _ _ _ _ _ M ν h (.refl hc.mem) ?_)
   simp only[VR]
   exact⟨b,_,rfl,hb,hM,_,pt.sub _ e.size,hr.idx ω⟩
  ·cases h
 ·cases h
theorem EJ(hc:Core c σ a.tmps w M ν){x:Operand}(ho:o.op= .nilCheck x){K:gL α}{id:Nat}{p:List Step}(hx:σ.ρ x= .jd id p)
  (h:K (.jd id p) [] []=some r) (hn:fH c σ a o w M ν K r next):o.wp P a w next Q:=by
 have hv:=hc.ev x
 have Rz:=hv
 rw[hx]at hv
 simp only[VR]at hv
 obtain⟨e,he,lR⟩:=hv
 obtain⟨ad,hu⟩:=lR.ptr
 refine a6 (wc ho hu) (hn _ _ _ _ _ M ν h (.refl hc.mem) ?_)
 rw[←hu,←hx];exact Rz
theorem Ct(hc:Core c σ a.tmps w M ν){x:Operand}(ho:o.op= .nilCheck x){K:gL α}{τ:Ty}{z:τ.den}(hx:σ.ρ x= .rR τ z)
  (h:K (.rR τ z) [] []=some r) (hn:fH c σ a o w M ν K r next):o.wp P a w next Q:=by
 have hv:=hc.ev x
 have Rz:=hv
 rw[hx]at hv
 simp only[VR]at hv
 obtain⟨b,off,hu,_⟩:=hv
 refine a6 (wc ho hu) (hn _ _ _ _ _ M ν h (.refl hc.mem) ?_)
 rw[←hu,←hx];exact Rz
theorem jN.get{H:Nat→Option bp}: ∀{qG:List bA} {vs:List Value},jN w M H ν qG vs→ ∀{i:Nat} {x:bA},qG[i]? =some x→ ∃v,vs[i]? =some v∧VR w M H ν x v
 |[],_,_,i,x,hx=>by simp at hx
 |y::qG,[],h,_,_,_=>by simp[jN]at h
 |y::qG,v::vs,h,0,x,hx=>by
  simp only[jN]at h
  simp at hx;subst hx
  exact⟨v,rfl,h.1⟩
 |y::qG,v::vs,h,i+1,x,hx=>by
  simp only[jN]at h
  exact jN.get h.2 (by simpa using hx)
theorem RP(hc:Core c σ a.tmps w M ν){x:Operand}{i:Nat}(ho:o.op= .extract x i){K:gL α}{vs:List bA}{v:bA}(hx:σ.ρ x= .tup vs)(hi:vs[i]? =some v)
  (h:K v [] []=some r) (hn:fH c σ a o w M ν K r next):o.wp P a w next Q:=by
 have hv:=hc.ev x
 rw[hx]at hv
 simp only[VR]at hv
 obtain⟨us,hu,hvs⟩:=hv
 obtain⟨u,hui,hvu⟩:=hvs.get hi
 exact a6 (Gu ho hu hui) (hn _ _ _ _ _ M ν h (.refl hc.mem) hvu)
theorem Core.evs(hc:Core c σ a.tmps w M ν): ∀xs:List Operand,jN w M σ.H ν (xs.map σ.ρ) (xs.map a.eval)
 |[]=>by simp[jN]
 |x::xs=>by simp only[bQ,jN];exact⟨hc.ev x,hc.evs xs⟩
theorem xm: ∀{qG:List bA} {vs:List Value} {H:Nat→Option bp} {M:Nat→Prop} {K:List bA→List Nat→jr→Option α},Mem c H w M ν→jN w M H ν qG vs→w6 H qG K=some r→
  ∃cs rd ups M',K cs rd ups=some r∧Tr c H w M ν (cP H ups) w M' ν∧jN w M' (cP H ups) ν cs vs
 |[],vs,H,M,K,hm,hv,h=>⟨[],[],[],M,h,.refl hm,hv⟩
 |x::xs,[],H,M,K,hm,hv,h=>by simp[jN]at hv
 |x::xs,v::vs,H,M,K,hm,hv,h=>by
  simp only[jN]at hv
  unfold w6 at h
  split at h
  ·rename_i id
   split at h
   ·rename_i τ z bg
    obtain⟨M1,b,ht,hb,eT,hM,ka,pt,kB⟩:=Tr.fix hm bg
    obtain⟨cs,rd,ups,M2,hK,TD,hv2⟩:=xm ht.mem (jN.bZ ht.bZ ht.goes hv.2) h
    refine⟨_,_,_,M2,hK,ht.trans TD,?_⟩
    have h1:VR w M1 (ca H id (some .gone)) ν (.rR τ z) v:=by
     have RQ:=hv.1
     simp only[VR]at RQ ⊢
     obtain⟨e,he,lR⟩:=RQ
     rw[bg]at he;cases he
     simp only[AR]at lR
     obtain⟨_,b',fa,RQ⟩:=lR
     rw[hb]at fa;cases fa
     exact⟨b,0,RQ,eT,hM,ka,pt,kB⟩
    simp only[jN]
    exact⟨VR.bZ TD.bZ TD.goes h1,hv2⟩
   ·cases h
  ·obtain⟨cs,rd,ups,M2,hK,TD,hv2⟩:=xm hm hv.2 h
   refine⟨_,_,_,M2,hK,TD,?_⟩
   simp only[jN]
   exact⟨VR.bZ TD.bZ TD.goes hv.1,hv2⟩
theorem N2(hc:Core c σ a.tmps w M ν){f:FuncId}{first caps:Array Operand}(ho:o.op= .makeFunc (.func f) first caps){K:gL α}
  (h:cond first.isEmpty (w6 σ.H (caps.toList.map σ.ρ) λcs rd ups=>K (.NL f cs) rd ups) none=some r) (hn:fH c σ a o w M ν K r next):o.wp P a w next Q:=by
 obtain⟨hf,h⟩:=cz h
 obtain⟨cs,rd,ups,M',hK,ht,hv⟩:=xm hc.mem (hc.evs _) h
 refine a6 (EH ho (by simpa using hf)) (hn _ _ _ _ _ M' ν hK ht ?_)
 simp only[VR]
 exact⟨caps.toList.map a.eval,by congr 1;apply gZ;simp,hv⟩
theorem RS(hE:EnvTy P E)(hc:Core c σ a.tmps w M ν){s d:TypeId}{x:Operand}(ho:o.op= .convert s d x){K:gL α}{τ:Ty}{k:IntKind}(hs:E.ty s=some τ)(hd:E.ty d=some (.int k))
  (h:wz (σ.ρ x) (λ_ n=>K (.val (.int k) (W k n)) [] [])=some r) (hn:fH c σ a o w M ν K r next):o.wp P a w next Q:=by
 obtain⟨k',n,hx,h⟩:=nX h
 have hv:=hc.ev x
 rw[hx]at hv
 refine a6 (Gv ho (hE.ty s τ hs).isSome (hE.ty d _ hd).int hv.int) (hn _ _ _ _ _ M ν h (.refl hc.mem) ?_)
 rw[Gj];exact .mkInt k _
end VM
end
