/- A part of the proof of BookDrawn of layer 18: a machine that reads a function of the program as an equation between values. -/
import Derived.Test.YtecmobijochjkaaGreatVm1
import Derived.Great.BuildSlice
import Derived.Laws.Tables
set_option linter.all false
open List renaming length→ℓ, getD→γ
section
namespace VM
open Go
theorem lf{α:Type}{r:α}: ∀{τ:Ty} {x:τ.den} {n:Nat} {m:(υ:Ty)→υ.den→(υ.den→Option α)→Option α} {k:τ.den→Option α},fV τ x n m k=some r→
  ∃υ y o k',DP τ x n υ y o∧m υ y k'=some r∧ ∀z r',k' z=some r'→ ∃x',k x'=some r'∧DP τ x' n υ z o∧
   ∀(w:World) (M:Nat→Prop) cs cs',Rd w M τ cs x→Rd w M υ cs' z→Rd w M τ (eJ cs o cs') x'
 | .pair a b,x,0,m,k,h=>by
  refine⟨a,x.1,0,_,.here x,h,λz r' hz=>⟨(z,x.2),hz,.here (a:=a) (b:=b) (z,x.2),λw M cs cs' hr dZ=> ?_⟩⟩
  simp only[Rd]at hr ⊢
  obtain⟨c1,c2,rfl,h1,h2⟩:=hr
  refine⟨cs',c2,?_,dZ,h2⟩
  rw[Bj (by rw[dZ.length,h1.length];omega)]
  congr 1
  unfold eJ
  rw[gr,dZ.length,←h1.length];simp
 | .pair a b,x,n+1,m,k,h=>by
  obtain⟨υ,y,o,k',hf,hm,hk⟩:=lf (τ:=b) (x:=x.2) (n:=n) (m:=m) (k:=λz=>k (x.1,z)) h
  refine⟨υ,y,_,k',.there x hf,hm,λz r' hz=> ?_⟩
  obtain⟨x',o7,zW,kE⟩:=hk z r' hz
  refine⟨(x.1,x'),o7,.there (a:=a) (b:=b) (x.1,x') zW,λw M cs cs' hr dZ=> ?_⟩
  simp only[Rd]at hr ⊢
  obtain⟨c1,c2,rfl,h1,h2⟩:=hr
  refine⟨c1,_,?_,h1,kE w M c2 cs' h2 dZ⟩
  rw[←h1.length,yV]
 | .int _,_,_,_,_,h| .bool,_,_,_,_,h| .str,_,_,_,_,h| .slice _,_,_,_,_,h| .unit,_,_,_,_,h| .arr _ _,_,_,_,_,h=>by simp[fV]at h
def pO(w:World)(M:Nat→Prop)(e:Ty)(cs:List Value)(l:List e.den):Prop:=
 ∀i (h:i<l.length),Rd w M e ((cs.drop (i*e.size)).take e.size) l[i]
theorem ew{i n s:Nat}(h:i<n):i*s+s≤n*s:=by
 have:(i+1)*s≤n*s:=kC _ h
 rw[eD,kV]at this;exact this
theorem pO.set{w:World}{M:Nat→Prop}{e:Ty}{cs:List Value}{l:List e.den}(h:pO w M e cs l)(hl:l.length*e.size≤cs.length){i:Nat}(hi:i<l.length){cs':List Value}{y:e.den}(hr:Rd w M e cs' y):
  pO w M e (eJ cs (i*e.size) cs') (l.set i y):=by
 have hlen:=hr.length
 intro j hj
 rw[bU]at hj
 have h1:=ew (s:=e.size) hi
 have h2:=ew (s:=e.size) hj
 by_cases qI:j=i
 ·subst qI
  have:=akg (a:=cs) (o:=j*e.size) (new:=cs') ω
  rw[hlen]at this
  rw[this,List.getElem_set_self];exact hr
 ·rw[Fw (by
   rcases Nat.lt_or_gt_of_ne qI with eV|eV
   ·have:=ew (s:=e.size) eV;left;omega
   ·have:=ew (s:=e.size) eV;right;omega) ω,List.getElem_set_ne (ff qI)]
  exact h j hj
theorem pO.append{w:World}{M:Nat→Prop}{e:Ty}{c1 c2:List Value}{l1 l2:List e.den}(h1:pO w M e c1 l1)(hl:c1.length=l1.length*e.size)(h2:pO w M e c2 l2):pO w M e (c1++c2) (l1++l2):=by
 intro i hi
 by_cases eV:i<l1.length
 ·have:=ew (s:=e.size) eV
  rw[xi ω,yS (by rw[dY];omega),AN eV]
  exact h1 i eV
 ·rw[aS]at hi
  obtain⟨k,rfl⟩: ∃k,i=l1.length+k:=⟨i-l1.length,ω⟩
  rw[eD,←hl,←iJ,mA rfl,F5 ω]
  simp only[AP]
  exact h2 k ω
theorem pO.take{w:World}{M:Nat→Prop}{e:Ty}{cs:List Value}{l:List e.den}(h:pO w M e cs l){n:Nat}(hn:l.length*e.size≤n):pO w M e (cs.take n) l:=by
 intro i hi
 have:=ew (s:=e.size) hi
 rw[sf,si,iq ω]
 exact h i hi
theorem pO.more{w:World}{M:Nat→Prop}{e:Ty}{cs cs':List Value}{l:List e.den}(h:pO w M e cs l)(hl:l.length*e.size≤cs.length):pO w M e (cs++cs') l:=by
 intro i hi
 have:=ew (s:=e.size) hi
 rw[xi ω,yS (by rw[dY];omega)]
 exact h i hi
theorem pO.cg{w w':World}{M M':Nat→Prop}(k:fK w M w' M'){e:Ty}{cs:List Value}{l:List e.den}(h:pO w M e cs l):pO w' M' e cs l:=λi hi=>(h i hi).cg k
theorem Rd.arr{w:World}{M:Nat→Prop}{n:Nat}{e:Ty}{cs:List Value}{x:(Ty.arr n e).den}:Rd w M (.arr n e) cs x↔ℓ x=n∧cs.length=n*e.size∧pO w M e cs x:=by
 constructor
 ·intro h
  have hl:=h.length
  have h':=h
  simp only[Rd]at h'
  refine⟨h'.1,hl,λi hi=> ?_⟩
  have:=h.idx (i:=i) ω
  rw[lN x i e.zero hi]at this
  exact this
 ·rintro⟨hn,hl,hr⟩
  simp only[Rd]
  refine⟨hn,(List.range n).map λi=>(cs.drop (i*e.size)).take e.size,by simp,?_,λi hi oe=> ?_⟩
  ·
   have key: ∀m (l:List Value),l.length=m*e.size→l=((List.range m).map λi=>(l.drop (i*e.size)).take e.size).flatten:=by
    intro m
    induction m with
    |zero=>intro l hl;simpa using hl
    |succ m ih=>
     intro l hl
     have h1:(l.take (m*e.size)).length=m*e.size:=by rw[cf,hl,eD];omega
     have h2:=ih (l.take (m*e.size)) h1
     rw[Gk,dp,List.flatten_append]
     have h3:((List.range m).map λi=>(l.drop (i*e.size)).take e.size)=(List.range m).map λi=>((l.take (m*e.size)).drop (i*e.size)).take e.size:=by
      apply p4
      intro i hi
      have:=ew (s:=e.size) (sj.1 hi)
      rw[sf,si,iq ω]
     rw[h3,←h2]
     simp only[bV,gQ,AX,List.flatten_nil,cy]
     rw[iG (l:=l.drop (m*e.size)) (by rw[dY,hl,eD];omega),gP]
   exact key n cs hl
  ·simp only[List.getElem_map,Gf]
   exact hr i hi
theorem qc{α:Type}{r:α}{υ:Ty}{y:υ.den}: ∀{p:List Step} {τ:Ty} {x:τ.den} {k:τ.den→Option α},wZ υ y p τ x k=some r→
  ∃z,k z=some r∧Jr p τ=υ∧(zx p τ→cM p τ+υ.size≤τ.size)∧ ∀(w:World) (M:Nat→Prop) cs cs',zx p τ→Rd w M τ cs x→Rd w M υ cs' y→Rd w M τ (eJ cs (cM p τ) cs') z
 |[],τ,x,k,h=>by
  obtain⟨e,h⟩:=bz (h:cP υ τ y k=some r)
  subst e
  refine⟨y,h,rfl,λ_=>by simp[cM],λw M cs cs' _ hr dZ=> ?_⟩
  unfold eJ
  rw[show cM [] υ=0 from rfl,gr,dZ.length,←hr.length]
  simpa using dZ
 | .iK n::p,τ,x,k,h=>by
  obtain⟨υ',y',o,k',hf,hm,hk⟩:=lf (h:fV τ x n _ k=some r)
  obtain⟨z',AG,ht,Je,kE⟩:=qc (p:=p) (τ:=υ') (x:=y') (k:=k') hm
  obtain⟨x',o7,zW,Vw⟩:=hk z' r AG
  obtain⟨h1,h2⟩:=hf.eq
  subst h1 h2
  refine⟨x',o7,ht,λhi=>by have:=hf.bound;have:=Je hi;simp only[cM];omega,λw M cs cs' hi hr dZ=> ?_⟩
  have Je:=Je hi
  have h3:=kE w M _ cs' hi (hf.rd hr) dZ
  have h4:=Vw w M cs _ hr h3
  have hb:=hf.bound
  have hlc:=hr.length
  have hl2:=dZ.length
  have hl3:=h3.length
  have kg:cM p (tq τ n)+cs'.length≤((cs.drop (gE τ n)).take (tq τ n).size).length:=by
   rw[cf,dY];omega
  have:eJ cs (gE τ n) (eJ ((cs.drop (gE τ n)).take (tq τ n).size) (cM p (tq τ n)) cs')=eJ cs (gE τ n+cM p (tq τ n)) cs':=by
   have e1:cs=cs.take (gE τ n)++(((cs.drop (gE τ n)).take (tq τ n).size)++cs.drop (gE τ n+(tq τ n).size)):=by
    rw[←iJ,gP,gP]
   have eV:(cs.take (gE τ n)).length=gE τ n:=by rw[cf];omega
   conv=>rhs;rw[e1]
   rw[show gE τ n+cM p (tq τ n)=(cs.take (gE τ n)).length+cM p (tq τ n)from by rw[eV],yV,Bj kg]
   generalize eJ ((cs.drop (gE τ n)).take (tq τ n).size) (cM p (tq τ n)) cs'=m at hl3 ⊢
   unfold eJ
   rw[hl3,bD]
  simp only[cM]
  rw[←this]
  exact h4
 | .idx i::p,τ,x,k,h=>by
  cases τ with
  |arr n e=>
   obtain⟨z',AG,ht,Je,kE⟩:=qc (p:=p) (τ:=e) (x:=γ x i e.zero) (k:=λz=>k (List.set x i z)) h
   refine⟨_,AG,ht,λhi=>by
    obtain⟨⟨n',e',he,kg⟩,oe⟩:=hi
    cases he
    have:=Je oe
    have hm:=ew (s:=e.size) kg
    simp only[cM,elT,Ty.size];omega,λw M cs cs' hi hr dZ=> ?_⟩
   obtain⟨⟨n',e',he,kg⟩,oe⟩:=hi
   cases he
   have h3:=kE w M _ cs' oe (hr.idx kg) dZ
   obtain⟨hn,hlc,J9⟩:=Rd.arr.1 hr
   have hm:=ew (s:=e.size) kg
   have h4:=J9.set (by rw[hlc,hn];exact aH _) (i:=i) ω h3
   have hl2:=dZ.length
   have hl3:=h3.length
   have hch:((cs.drop (i*e.size)).take e.size).length=e.size:=by rw[cf,dY];omega
   have Je:=Je oe
   have avt:cM p e+cs'.length≤((cs.drop (i*e.size)).take e.size).length:=ω
   have:eJ cs (i*e.size) (eJ ((cs.drop (i*e.size)).take e.size) (cM p e) cs')=eJ cs (i*e.size+cM p e) cs':=by
    have e1:cs=cs.take (i*e.size)++(((cs.drop (i*e.size)).take e.size)++cs.drop (i*e.size+e.size)):=by
     rw[←iJ,gP,gP]
    have eV:(cs.take (i*e.size)).length=i*e.size:=by rw[cf];omega
    conv=>rhs;rw[e1]
    rw[show i*e.size+cM p e=(cs.take (i*e.size)).length+cM p e from by rw[eV],yV,Bj avt]
    generalize eJ ((cs.drop (i*e.size)).take e.size) (cM p e) cs'=m at hl3 ⊢
    unfold eJ
    rw[hl3,bD]
   simp only[cM,elT]
   rw[←this]
   refine Rd.arr.2 ⟨by rw[bU];exact hn,?_,h4⟩
   rw[eF (by rw[hl3];omega)];exact hlc
  |_=>simp[wZ,Ft]at h
theorem Rd.apm{w:World}{M:Nat→Prop}{τ υ:Ty}{cs:List Value}{x:τ.den}(e:τ=υ)(h:Rd w M τ cs x):Rd w M υ cs (e▸x):=by subst e;exact h
theorem GH{α:Type}{r:α}{e:Ty}{l:List e.den}: ∀{τ:Ty} {n:Nat} {z:τ.den} {k:τ.den→Option α},fV τ z n (fun υ' _ k'=>cP (.slice e) υ' l k') k=some r→
  ∃x,k x=some r∧fV τ z n (fun υ' _ k'=>cP (.slice e) υ' l k') some=some x∧vE τ x n (fun υ y=>cP υ (.slice e) y some)=some l∧ ∀l':List e.den,∃z0,
   (∀(β:Type) (k':τ.den→Option β),fV τ x n (fun υ' _ k'=>cP (.slice e) υ' l' k') k'=k' z0)∧ ∀(β:Type) (k':τ.den→Option β),fV τ z n (fun υ' _ k'=>cP (.slice e) υ' l' k') k'=k' z0
 | .pair a b,0,z,k,h=>by
  have h1:cP (.slice e) a l (λw=>k (w,z.2))=some r:=h
  obtain⟨e1,h2⟩:=bz h1
  clear h1 h
  subst e1
  exact⟨_,h2,by simp[fV,cP],by simp[vE,cP],λl'=>⟨(l',z.2),λβ k'=>by simp[fV,cP],λβ k'=>by simp[fV,cP]⟩⟩
 | .pair a b,n+1,z,k,h=>by
  obtain⟨x,h1,h0,h2,h3⟩:=GH (τ:=b) (n:=n) (z:=z.2) (k:=λw=>k (z.1,w)) h
  refine⟨(z.1,x),h1,?_,h2,λl'=> ?_⟩
  ·obtain⟨z0,h4,h5⟩:=h3 l
   have h6:=h5 _ some
   rw[h0]at h6
   cases h6
   exact h5 _ λw=>some (z.1,w)
  obtain⟨z0,h4,h5⟩:=h3 l'
  exact⟨(z.1,z0),λβ k'=>h4 β λw=>k' (z.1,w),λβ k'=>h5 β λw=>k' (z.1,w)⟩
 | .int _,_,_,_,h| .bool,_,_,_,h| .str,_,_,_,h| .slice _,_,_,_,h| .unit,_,_,_,h| .arr _ _,_,_,_,h=>by simp[fV]at h
end VM
end
section
namespace VM
open Go
variable{P:Program}{E:Env}{o:Oper}{a:Act}{w:World}{M:Nat→Prop}{ν:Nat→Value}{σ:St}{c:Ctx}{α:Type}{r:α}{next:Act→World→Prop}{Q:Exit→Act→World→Prop}
theorem aZ{v:Value}{w':World}(h:(execOp a.eval o).run P w= .ok (.value v) w')(hn:next (a.put o.dst v) w'):o.wp P a w next Q:=by
 unfold Oper.wp Oper.upon;rw[h];exact hn
theorem pd{w':World}(h:(execOp a.eval o).run P w= .ok .skip w')(hn:next (a.put o.dst undef) w'):o.wp P a w next Q:=by
 unfold Oper.wp Oper.upon;rw[h];exact hn
def fM(c:Ctx)(σ:St)(a:Act)(o:Oper)(w:World)(M:Nat→Prop)(ν:Nat→Value)(K:g7 α)(r:α)(next:Act→World→Prop):Prop:=
 ∀v rd ups v' w' M' ν',K v rd ups=some r→Tr c σ.H w M ν (c4 σ.H ups) w' M' ν'→VR w' M' (c4 σ.H ups) ν' v v'→next (a.put o.dst v') w'
theorem Core.ev(h:Core c σ a.tmps w M ν)(x:Operand):VR w M σ.H ν (σ.ρ x) (a.eval x):=h.op a.defers x
theorem oi{x:bE}{k:IntKind→Int→Option α}(h:w1 x k=some r): ∃(i:IntKind) (n:Int),x= .val (.int i) n∧k i n=some r:=by
 unfold w1 at h
 split at h
 ·exact⟨_,_,rfl,h⟩
 ·cases h
theorem VR.int{H:Nat→Option br}{k:IntKind}{n:Int}{v:Value}(h:VR w M H ν (.val (.int k) n) v):v= .int k n:=by
 simp only[VR,V,Ty.isAgg,jO,fE,Rd,fT,fD]at h;exact h
theorem VR.bool{H:Nat→Option br}{b:Bool}{v:Value}(h:VR w M H ν (.val .bool b) v):v= .bool b:=by
 simp only[VR,V,Ty.isAgg,jO,fE,Rd,fT,fD]at h;exact h
theorem VR.str{H:Nat→Option br}{b:ByteArray}{v:Value}(h:VR w M H ν (.val .str b) v):v= .string b:=by
 simp only[VR,V,Ty.isAgg,jO,fE,Rd,fT,fD]at h;exact h
theorem VR.mkInt{H:Nat→Option br}(k:IntKind)(n:Int):VR w M H ν (.val (.int k) n) (.int k n):=by simp[VR,V,Ty.isAgg,Rd]
theorem VR.vI{H:Nat→Option br}(b:Bool):VR w M H ν (.val .bool b) (.bool b):=by simp[VR,V,Ty.isAgg,Rd]
theorem VR.mkStr{H:Nat→Option br}(b:ByteArray):VR w M H ν (.val .str b) (.string b):=by simp[VR,V,Ty.isAgg,Rd]
theorem T2(hc:Core c σ a.tmps w M ν){x:Operand}(ho:o.op= .move x∨o.op= .assign x){K:g7 α}(h:K (σ.ρ x) [] []=some r)(hn:fM c σ a o w M ν K r next):o.wp P a w next Q:=by
 have hr:(execOp a.eval o).run P w= .ok (.value (a.eval x)) w:=by
  rcases ho with ho|ho
  ·simp[execOp,ho]
  ·simp[execOp,ho]
 exact aZ hr (hn _ _ _ _ _ _ _ h (.refl hc.mem) (hc.ev x))
theorem ace(hc:Core c σ a.tmps w M ν){x y z:Operand}(ho:o.op= .pick x y z){K:g7 α}{t:Bool}(hx:σ.ρ x= .val .bool t)(h:cond t (K (σ.ρ y) [] []) (K (σ.ρ z) [] [])=some r)
  (hn:fM c σ a o w M ν K r next):o.wp P a w next Q:=by
 have hv:=hc.ev x
 rw[hx]at hv
 refine aZ (N8 ho hv.bool) ?_
 cases t
 ·exact hn _ _ _ _ _ _ _ h (.refl hc.mem) (hc.ev z)
 ·exact hn _ _ _ _ _ _ _ h (.refl hc.mem) (hc.ev y)
theorem mE{H:Nat→Option br}{id:Nat}{e:br}{K:Option α}(h:sv H id e K=some r):H id=none∧K=some r:=by
 unfold sv at h
 split at h
 ·rename_i h';exact⟨h',h⟩
 ·cases h
theorem VR.aiY{H:Nat→Option br}{id:Nat}{τ:Ty}{x:τ.den}{b:Nat}(bk:H id=some (.obj τ x))(hν:ν id= .pointer (some ⟨b,0,none⟩)):VR w M H ν (.jH id []) (.pointer (some ⟨b,0,none⟩)):=by
 simp only[VR]
 exact⟨_,bk,trivial,b,hν,rfl⟩
theorem VR.Yj{H:Nat→Option br}{id:Nat}{τ:Ty}{x:τ.den}{q:List Step}{j b:Nat}(bk:H id=some (.gn τ x q j))(hν:ν id= .pointer (some ⟨b,0,none⟩)):VR w M H ν (.jH id []) (.pointer (some ⟨b,0,none⟩)):=by
 simp only[VR]
 exact⟨_,bk,trivial,b,hν,rfl⟩
theorem fF(τ:Ty):(ck τ τ.cI).cells.toList=τ.cI:=Jq (Rd.zero default (λ_=>False) τ)
theorem N9: ∀{τ:Ty} {n:Nat} {a:Ty},Be τ n=some a→ ∃l m,τ.cI=l++(a.cI++m)∧l.length=gE τ n:=by
 intro τ
 induction τ with
 |pair a b _ Yi=>
  intro n c h
  cases n with
  |zero=>cases h;exact⟨[],b.cI,rfl,rfl⟩
  |succ n=>
   obtain⟨l,m,h1,h2⟩:=Yi (n:=n) (a:=c) h
   refine⟨a.cI++l,m,by simp only[Ty.cI];rw[h1,bD],?_⟩
   rw[aS,h2,(Rd.zero default (λ_=>False) a).length];rfl
 |_=>intro n c h;simp[Be]at h
theorem Bo: ∀{p:List Step} {τ υ:Ty},gm p τ υ=true→ ∃l m,τ.cI=l++(υ.cI++m)∧l.length=cM p τ
 |[],τ,υ,h=>by
  have h:=bA h
  subst h
  exact⟨[],[],by simp,rfl⟩
 | .iK n::p,τ,υ,h=>by
  unfold gm at h
  split at h
  ·rename_i a ha
   obtain⟨l,m,h1,h2⟩:=N9 ha
   obtain⟨l',m',h3,h4⟩:=Bo h
   obtain⟨_,_,hf⟩:=og ha τ.zero
   have:=hf.eq.1
   subst this
   refine⟨l++l',m'++m,by rw[h1,h3];simp,?_⟩
   rw[aS,h2,h4];rfl
  ·cases h
 | .idx _::_,_,_,h=>by simp[gm]at h
theorem CI{p:List Step}{τ e:Ty}(h:gm p τ (.slice e)=true):τ.cI[cM p τ]? =some (.slice none 0 0):=by
 obtain⟨l,m,h1,h2⟩:=Bo h
 rw[h1,pI ω,h2,uS];rfl
theorem cD{b:Bool}{K:Option α}(h:cond b K none=some r):b=true∧K=some r:=by
 cases b
 ·cases h
 ·exact⟨rfl,h⟩
theorem LD{τ:Ty}{q:List Step}{e:Ty}(h:lkT E τ=some (q,e)):gm q τ (.slice e)=true:=by
 unfold lkT at h
 split at h
 ·rename_i υ q' e' _ _
  cases hd:decide (υ=τ)<;>rw[hd]at h
  ·cases h
  ·simp only[aj]at h
   cases hp:gm q' τ (.slice e')<;>rw[hp]at h
   ·cases h
   ·cases h;exact hp
 ·cases h
theorem sB{τ:Ty}{id:Nat}{q:List Step}{e:Ty}(h:Jp E τ id=some (q,e)):gm q τ (.slice e)=true:=by
 unfold Jp at h
 split at h
 ·exact LD (cD h).2
 ·cases h
theorem GI{H:Nat→Option br}{id:Nat}{τ:Ty}{x:τ.den}{q:List Step}{e:Ty}{K:g7 α}(h:EO H id τ x q e K=some r):H id=none∧H (id+1)=none∧K (.jH id []) [id,id+1] [(id,some (.gn τ x q (id+1))),(id+1,some (.own e []))]=some r:=by
 unfold EO at h
 obtain⟨h1,h⟩:=mE h
 obtain⟨h2,h⟩:=mE h
 exact⟨h1,h2,h⟩
theorem Vy{H:Nat→Option br}{i j:Nat}{u v:Option br}(h:i≠j):cq (cq H i u) j v=cq (cq H j v) i u:=by
 funext k
 by_cases hi:k=i
 ·subst hi;rw[az _ _ h,ay,ay]
 ·by_cases hj:k=j
  ·subst hj;rw[ay,az _ _ hi,ay]
  ·rw[az _ _ hj,az _ _ hi,az _ _ hi,az _ _ hj]
theorem zY{H:Nat→Option br}{i:Nat}{u v:Option br}:cq (cq H i u) i v=cq H i v:=by
 funext k
 by_cases hi:k=i
 ·subst hi;rw[ay,ay]
 ·rw[az _ _ hi,az _ _ hi,az _ _ hi]
theorem Tr.Yk{H:Nat→Option br}(h:Mem c H w M ν){id k:Nat}(hk:H k=none){τ:Ty}{x:τ.den}(bk:H id=some (.obj τ x)){b:Nat}{cs:Array Value}{t:TypeId}(hb:ν id= .pointer (some ⟨b,0,none⟩))(hg:w.heap[b]? =some (.cells cs t (0,0)))
  {q:List Step} {e:Ty} (hq:gm q τ (.slice e)=true) {ad:Option Addr} (hz:cs.toList[cM q τ]? =some (.slice ad 0 0)):
  Tr c H w M ν (c4 H [(id,some (.gn τ x q k)),(k,some (.own e []))]) w M (updν ν k (.slice ad 0 0)):=by
 have kQ:k≠id:=λe=>by rw[e,bk]at hk;cases hk
 have h2:=Tr.nothing h hk e ad
 have hd2:cq H k (some (.own e [])) id=some (.obj τ x):=by rw[az _ _ (ff kQ)];exact bk
 have hν:updν ν k (.slice ad 0 0) id= .pointer (some ⟨b,0,none⟩):=by unfold updν;rw[ah (ff kQ)];exact hb
 have hν1:updν ν k (.slice ad 0 0) k= .slice ad 0 0:=by simp[updν]
 have he:=h2.mem.ke id _ hd2
 simp only[ER]at he
 obtain⟨b',cs',t',eY,hg',hM,kE⟩:=he
 rw[hν]at eY;cases eY
 rw[hg]at hg';cases hg'
 have h3:=Tr.Jt h2.mem hd2 trivial (e':= .gn τ x q k) trivial rfl (λ_ _=>by simp) (by
   rw[hν];simp only[ER]
   exact⟨_,cs,t,cs.toList,.slice ad 0 0,rfl,hg,hM,kE,(Gx hz).symm,rfl,e,hq⟩)
  (fun τ' x' p' j' hl=>by
   cases hl
   refine⟨by rw[ay];simp,_,hν,?_⟩
   rw[hν1,cell_of hg,←iH];exact hz)
 rw[Vy (i:=k) (j:=id) kQ]at h3
 exact h2.trans h3
theorem Tr.EO{H:Nat→Option br}(h:Mem c H w M ν){id:Nat}(bk:H id=none)(qJ:H (id+1)=none)(t:TypeId){τ:Ty}{cs:Array Value}{x:τ.den}(hr:Rd w M τ cs.toList x){q:List Step}{e:Ty}(hq:gm q τ (.slice e)=true){ad:Option Addr}
  (hz:cs.toList[cM q τ]? =some (.slice ad 0 0)):
  ∃M' ν',Tr c H w M ν (c4 H [(id,some (.gn τ x q (id+1))),(id+1,some (.own e []))]) (w.alloc (.cells cs t)) M' ν'∧ν' id= .pointer (some ⟨w.heap.size,0,none⟩):=by
 have h1:=Tr.var h bk t hr
 have h2:=Tr.Yk h1.mem (id:=id) (k:=id+1) (by rw[az _ _ ω];exact qJ) (ay _ _ _) (by simp[updν]) (GA w _) hq hz
 have e1:c4 (cq H id (some (.obj τ x))) [(id,some (.gn τ x q (id+1))),(id+1,some (.own e []))]=c4 H [(id,some (.gn τ x q (id+1))),(id+1,some (.own e []))]:=by
  show cq (cq (cq H id _) id _) (id+1) _=cq (cq H id _) (id+1) _
  rw[zY]
 rw[e1]at h2
 exact⟨_,_,h1.trans h2,by simp[updν]⟩
theorem Yl(hE:EnvTy P E)(hc:Core c σ a.tmps w M ν){t:TypeId}(ho:o.op= .alloc t){K:g7 α}{τ:Ty}(ht:E.ty t=some τ){id:Nat}
  (h:(match Jp E τ id with
   |some (q,e)=>EO σ.H id τ τ.zero q e K
   |none=>sv σ.H id (.obj τ τ.zero) (K (.jH id []) [id] [(id,some (.obj τ τ.zero))]))=some r) (hn:fM c σ a o w M ν K r next):o.wp P a w next Q:=by
 obtain⟨i,hi,hs,hz,_⟩:=(hE.ty t τ ht).base
 have hr:Rd w M τ (ck τ τ.cI).cells.toList τ.zero:=by rw[fF];exact Rd.zero w M τ
 split at h
 ·rename_i q e q5
  obtain⟨bk,qJ,h⟩:=GI h
  obtain⟨M',ν',gF,hν⟩:=Tr.EO hc.mem bk qJ t hr (sB q5) (by rw[fF];exact CI (sB q5))
  refine aZ (Bm ho hi hz w) (hn _ _ _ _ _ M' ν' h gF ?_)
  exact VR.Yj (by show cq _ (id+1) _ id=_;rw[az _ _ ω,ay]) hν
 ·obtain⟨bk,h⟩:=mE h
  refine aZ (Bm ho hi hz w) (hn _ _ _ _ _ _ _ h (Tr.var hc.mem bk t hr) (VR.aiY (ay _ _ _) (by simp[updν])))
theorem T3(hE:EnvTy P E)(hc:Core c σ a.tmps w M ν){t:TypeId}{x:Operand}(ho:o.op= .box t x){K:g7 α}{τ:Ty}{id:Nat}
  (h:m9 true (σ.ρ x) σ.H τ (λy rd ups=>sv σ.H id (.obj τ y) (K (.jH id []) (id::rd) (ups++[(id,some (.obj τ y))])))=some r) (hn:fM c σ a o w M ν K r next):o.wp P a w next Q:=by
 obtain⟨y,rd,ups,M',h,gF,hV,hz,_⟩:=ld (.refl _) hc.mem (hc.ev x) h
 obtain⟨bk,h⟩:=mE h
 have akj:c4 σ.H ups id=none:=hz.none bk
 have xN:=gF.trans (Tr.var gF.mem akj t hV.cells)
 refine aZ (GB ho w) (hn _ _ _ _ _ (λb=>M' b∨b=w.heap.size) (updν ν id (.pointer (some ⟨w.heap.size,0,none⟩))) h ?_ ?_)
 ·rw[fL];exact xN
 ·rw[fL];exact VR.aiY (ay _ _ _) (by simp[updν])
theorem akk(hE:EnvTy P E)(hc:Core c σ a.tmps w M ν){t:TypeId}{x:Operand}(ho:o.op= .box t x){K:g7 α}{τ:Ty}{id:Nat}
  (h:(match Jp E τ id,σ.ρ x with
   |some ([.iK m],e),.Lv υ y n=>cond (Nat.beq m n) (cP υ τ y λy=>EO σ.H id τ y [.iK m] e K) (m9 true (σ.ρ x) σ.H τ (λy rd ups=>sv σ.H id (.obj τ y) (K (.jH id []) (id::rd) (ups++[(id,some (.obj τ y))]))))
   |_,_=>m9 true (σ.ρ x) σ.H τ (λy rd ups=>sv σ.H id (.obj τ y) (K (.jH id []) (id::rd) (ups++[(id,some (.obj τ y))]))))=some r) (hn:fM c σ a o w M ν K r next):o.wp P a w next Q:=by
 split at h
 ·rename_i m e υ y n q5 hx
  cases hb:Nat.beq m n
  ·rw[hb]at h
   exact T3 hE hc ho h hn
  ·rw[hb]at h
   have CJ:=fA hb
   subst CJ
   simp only[aj]at h
   obtain⟨e1,h⟩:=bz h
   subst e1
   obtain⟨bk,qJ,h⟩:=GI h
   have hv:=hc.ev x
   rw[hx]at hv
   simp only[VR]at hv
   obtain⟨hV,cs,ad,hva,hz⟩:=hv
   have uw:(a.eval x).cells.toList=cs.toList:=by rw[hva];rfl
   obtain⟨M',ν',gF,hν⟩:=Tr.EO hc.mem bk qJ t hV.cells (sB q5) (ad:=ad) (by rw[uw];simpa [cM]using hz)
   refine aZ (GB ho w) (hn _ _ _ _ _ M' ν' h gF ?_)
   exact VR.Yj (by show cq _ (id+1) _ id=_;rw[az _ _ ω,ay]) hν
 ·exact T3 hE hc ho h hn
theorem vJ{i:Int}{n:Nat}(h:bf i n=true):0≤i∧i<(n:Int):=by rw[Yd]at h;simpa using h
theorem nD{b:Bool}{K:Option α}(h:cond b none K=some r):b=false∧K=some r:=by
 cases b
 ·exact⟨rfl,h⟩
 ·cases h
theorem DT(hm:Mem c σ.H w M ν){x:bE}{u:Value}(hv:VR w M σ.H ν x u){K:(υ:Ty)→υ.den→List Nat→Option α}(h:lZ x σ.H K=some r):
  ∃υ y rd,K υ y rd=some r∧ ∃b off cs,u= .pointer (some ⟨b,off,none⟩)∧At w b off cs∧Rd w M υ cs y:=by
 unfold lZ at h
 split at h
 ·simp only[VR]at hv
  obtain⟨b,off,rfl,_,_,cs,ha,hr⟩:=hv
  exact⟨_,_,_,h,b,off,cs,rfl,ha,hr⟩
 ·rename_i id p
  simp only[VR]at hv
  obtain⟨e,he,lR⟩:=hv
  have mi:=hm.ke id e he
  rw[he]at h
  cases e with
  |obj τ x=>
   obtain⟨υ,y,o',hp,hK⟩:=la h
   simp only[AR]at lR
   obtain⟨hi,b,hb,rfl⟩:=lR
   simp only[ER]at mi
   obtain⟨b',cs,t,eY,hg,_,hr⟩:=mi
   rw[hb]at eY;cases eY
   have:=hp.eq.2
   subst this
   exact⟨υ,y,_,hK,b,_,_,rfl,At.of_block hg _ _,hp.rd hi hr⟩
  |own e l=>
   simp only[AR]at lR
   obtain⟨i,q,rfl,Bp,hi,b,n,cp,hb,rfl⟩:=lR
   obtain⟨υ,y,o',hp,hK⟩:=la h
   simp only[ER]at mi
   rcases mi with⟨rfl,_⟩|⟨b',cs,t,cap,eY,hg,_,T4,hl,Fy,hs,hr⟩
   ·simp at Bp
   ·rw[hb]at eY;cases eY
    have:=hp.eq.2
    subst this
    have h1:=hr i Bp
    rw[←lN l i e.zero Bp]at h1
    have h2:=hp.rd hi h1
    have h3:=hp.bound hi
    rw[sf,iJ,si,iq ω]at h2
    exact⟨υ,y,_,hK,b,_,_,rfl,At.of_block hg _ _,h2⟩
  |pM e l=>
   simp only[AR]at lR
   obtain⟨i,q,rfl,Bp,hi,b,n,cp,hb,rfl⟩:=lR
   obtain⟨υ,y,o',hp,hK⟩:=la h
   simp only[ER]at mi
   have kE:=mi.1
   simp only[Rd,fT,fD]at kE
   obtain⟨a0,cap,ha0,_,hr⟩:=kE
   obtain⟨b',off,rfl,_,_,cs,pN,hrr⟩:=hr i Bp
   rw[hb]at ha0;cases ha0
   have:=hp.eq.2
   subst this
   rw[gr]at pN
   have apq:Rd w M e cs (γ l i e.zero):=by rw[lN l i e.zero Bp];exact hrr
   have h2:=hp.rd hi apq
   have h3:=hp.bound hi
   have hlc:=apq.length
   refine⟨υ,y,_,hK,b,_,_,rfl,?_,h2⟩
   intro j v hj
   rw[mY]at hj
   split at hj
   ·rw[mZ]at hj
    have:=pN _ v hj
    rwa [←p6]at this
   ·cases hj
  |gn _ _ _ _=>cases h
  |gone=>cases h
 ·cases h
theorem Mem.linked{H:Nat→Option br}(hm:Mem c H w M ν){id:Nat}{τ:Ty}{x:τ.den}{q:List Step}{j:Nat}(bk:H id=some (.gn τ x q j)):
  ∃b cs t ki e,ν id= .pointer (some ⟨b,0,none⟩)∧w.heap[b]? =some (.cells cs t (0,0))∧M b∧Rd w M τ ki x∧cs.toList=eJ ki (cM q τ) [ν j]∧(ν j).oneCell'=true∧gm q τ (.slice e)=true∧cM q τ<ki.length∧H j≠none:=by
 have mi:=hm.ke id _ bk
 simp only[ER]at mi
 obtain⟨b,cs,t,ki,u,hb,hg,hM,hr,uw,h1,e,hq⟩:=mi
 obtain⟨hj,b',eY,T6⟩:=hm.gn id _ _ _ _ bk
 rw[hb]at eY;cases eY
 obtain⟨y,o,hp⟩:=uY hq x
 have eV:cM q τ<ki.length:=by
  have:=hp.bound (lO hq).1
  have h2:=hp.eq.2
  have h3:=hr.length
  have:(Ty.slice e).size=1:=rfl
  omega
 have hu:u=ν j:=by
  rw[cell_of hg,←iH,uw,yW eV]at T6
  exact oa T6
 subst hu
 exact⟨b,cs,t,ki,e,hb,hg,hM,hr,uw,h1,hq,eV,hj⟩
theorem zZ{H:Nat→Option br}(hm:Mem c H w M ν){id:Nat}{τ:Ty}{x:τ.den}{q:List Step}{j:Nat}(bk:H id=some (.gn τ x q j)){k:τ.den→jI→Option α}(h:EN j q τ x H k=some r):
  ∃z ups M',k z ups=some r∧Tr c H w M ν (c4 H ups) w M' ν∧Fz H (c4 H ups)∧((∃e l,H j=some (.pM e l)∧ups=[])∨ ∃e l,H j=some (.own e l)∧ups=[(j,some (.pM e l))])∧ ∃b cs t,ν id= .pointer (some ⟨b,0,none⟩)∧w.heap[b]? =some (.cells cs t (0,0))∧M' b∧Rd w M' τ cs.toList z:=by
 obtain⟨b,cs,t,ki,e0,hb,hg,hM,hr,uw,h1,hq,eV,hj⟩:=hm.linked bk
 have Sk:=(lO hq).1
 unfold EN at h
 split at h
 ·rename_i e l Bq
  obtain⟨z,hz,DU,Je,sC⟩:=qc h
  obtain⟨M',gF,hV,hM'⟩:=Tr.freeze hm Bq
  refine⟨z,_,M',hz,gF,λi=> ?_,.inr ⟨e,l,Bq,rfl⟩,b,cs,t,hb,hg,?_,?_⟩
  ·by_cases hi:i=j
   ·subst hi;exact .inr ⟨e,l,Bq,ay _ _ _⟩
   ·exact .inl (az _ _ hi)
  ·refine(hM' b).2 ⟨hM,λhjb=> ?_⟩
   have kQ:j≠id:=λe=>by rw[e,bk]at Bq;cases Bq
   exact hm.Bk j id _ _ b kQ Bq trivial bk trivial hjb (by rw[hb];rfl)
  ·rw[uw]
   exact sC w M' ki [ν j] Sk (hr.cg gF.cg) (V.slice.1 hV)
 ·rename_i e l Bq
  obtain⟨z,hz,DU,Je,sC⟩:=qc h
  have mi:=hm.ke j _ Bq
  simp only[ER]at mi
  refine⟨z,_,M,hz,.refl hm,.refl H,.inl ⟨e,l,Bq,rfl⟩,b,cs,t,hb,hg,hM,?_⟩
  rw[uw]
  exact sC w M ki [ν j] Sk hr mi.1
 ·cases h
theorem aow{τ υ:Ty}{t:TypeId}(hE:EnvTy P E)(ht:E.ty t=some τ)(h:gm ([]:List Step) υ τ=true):υ=τ:=bA h
theorem Rd.akl{e:Ty}{v:Value}{cs:List Value}{l:List e.den}(h:Rd w M (.slice e) cs l): ∃a n cap,cs=[.slice a n cap]:=by
 simp only[Rd]at h
 obtain⟨a,cap,rfl,_⟩:=h
 exact⟨a,_,cap,rfl⟩
theorem Jv{ρ:Operand→Value}{t:TypeId}{x:Operand}(ho:o.op= .load t x){τ:Ty}(h:kZ P τ t)(ha:τ.isAgg=false){b off:Nat}{v:Value}(hx:ρ x= .pointer (some ⟨b,off,none⟩))(hc:w.cell? ⟨b,off,none⟩=some v):
  (execOp ρ o).run P w= .ok (.value v) w:=by
 have:(loadVar t ⟨b,off,none⟩).run P w= .ok v w:=by
  simp[loadVar,rP h,ha,load,Sem.run,hc]
 simp[execOp,ho,hx,Instr.loadAt,Instr.sureAddr,this]
theorem Oa(hE:EnvTy P E)(hc:Core c σ a.tmps w M ν){t:TypeId}{x:Operand}(ho:o.op= .load t x){K:g7 α}{τ:Ty}(ht:E.ty t=some τ)
  (h:lZ (σ.ρ x) σ.H (fun υ y rd=>cP υ τ y λz=>K (.val τ z) rd [])=some r) (hn:fM c σ a o w M ν K r next):o.wp P a w next Q:=by
 obtain⟨υ,y,rd,h,b,off,cs,hu,pN,hr⟩:=DT hc.mem (hc.ev x) h
 obtain⟨e,h⟩:=bz h
 subst e
 refine aZ (xL ho (hE.ty t _ ht) hu pN hr) (hn _ _ _ _ _ _ _ h (.refl hc.mem) ?_)
 simp only[VR]
 exact V.ck hr
theorem T7(hE:EnvTy P E)(hc:Core c σ a.tmps w M ν){t:TypeId}{x:Operand}(ho:o.op= .load t x){K:g7 α}{τ:Ty}(ht:E.ty t=some τ)
  (h:uV τ (σ.ρ x) σ.H K=some r) (hn:fM c σ a o w M ν K r next):o.wp P a w next Q:=by
 unfold uV at h
 simp only at h
 split at h
 ·rename_i id p hx
  split at h
  ·rename_i υ z q j bk
   have hv:=hc.ev x
   rw[hx]at hv
   simp only[VR]at hv
   obtain⟨e1,GJ,lR⟩:=hv
   rw[bk]at GJ;cases GJ
   simp only[AR]at lR
   obtain⟨hi,b,hb,hu⟩:=lR
   obtain⟨b',cs,te,ki,e0,eY,hg,hM,hr,uw,h1,hq,eV,hj⟩:=hc.mem.linked bk
   rw[hb]at eY;cases eY
   cases hp:Nl p q
   ·rw[hp]at h
    cases Jc:zt p q
    ·
     rw[Jc]at h
     simp only[av]at h
     obtain⟨υ',y,o',zy,h⟩:=la h
     obtain⟨e2,h⟩:=bz h
     subst e2
     have hap:=zy.apart hi hq Jc
     have ho':=zy.eq.2
     subst ho'
     have Je:=zy.bound hi
     have hlen:=hr.length
     have kE:Rd w M υ' ((cs.toList.drop (cM p υ)).take υ'.size) y:=by
      rw[uw,Fw (by simp only[aK];omega) (by simp only[aK];omega)]
      exact zy.rd hi hr
     refine aZ (xL ho (hE.ty t _ ht) hu (At.of_block hg _ _) kE) (hn _ _ _ _ _ M ν h (.refl hc.mem) ?_)
     simp only[VR]
     exact V.ck kE
    ·
     rw[Jc]at h
     simp only[av,aj]at h
     obtain⟨z',ups,M',h,gF,_,_,b2,T8,t2,vx,Ym,LF,z6⟩:=zZ hc.mem bk h
     rw[hb]at vx;cases vx
     rw[hg]at Ym;cases Ym
     obtain⟨υ',y,o',zy,h⟩:=la h
     obtain⟨e2,h⟩:=bz h
     subst e2
     have ho':=zy.eq.2
     subst ho'
     have kE:=zy.rd hi z6
     refine aZ (xL ho (hE.ty t _ ht) hu (At.of_block hg _ _) kE) (hn _ _ _ _ _ M' ν h gF ?_)
     simp only[VR]
     exact V.ck kE
   ·
    rw[hp]at h
    have:=zX hp
    subst this
    simp only[aj]at h
    obtain⟨hpq,hK⟩:=cD h
    have hτ:τ= .slice e0:=(lO hpq).2.symm.trans (lO hq).2
    subst hτ
    have T6:w.cell? ⟨b,cM p υ,none⟩=some (ν j):=by rw[cell_of hg,←iH,uw,yW eV]
    refine aZ (Jv ho (hE.ty t _ ht) rfl hu T6) (hn _ _ _ _ _ M ν hK (.refl hc.mem) ?_)
    simp only[VR]
    exact⟨hj,trivial⟩
  ·exact Oa hE hc ho ht h hn
 ·exact Oa hE hc ho ht h hn
theorem z7{τ:Ty}{n:Nat}(h:vH τ n=true): ∃e,gm [.iK n] τ (.slice e)=true∧Be τ n=some (.slice e):=by
 unfold vH at h
 split at h
 ·rename_i e he
  exact⟨e,by simp[gm,he],he⟩
 ·cases h
theorem rQ{τ:Ty}{n:Nat}{e:Ty}(h:gm [.iK n] τ (.slice e)=true):vH τ n=true:=by
 unfold gm at h
 unfold vH
 split at h
 ·rename_i a ha
  rw[ha]
  rw[show a= .slice e from bA h]
 ·cases h
theorem GK{τ:Ty}{n:Nat}(h:vH τ n=true):τ.isAgg=true:=by
 cases τ<;>first|rfl|(simp[vH,Be]at h)
theorem Yn(hE:EnvTy P E)(hc:Core c σ a.tmps w M ν){t:TypeId}{x:Operand}(ho:o.op= .load t x){K:g7 α}{τ:Ty}(ht:E.ty t=some τ)
  (h:Bh E τ (σ.ρ x) σ.H K=some r) (hn:fM c σ a o w M ν K r next):o.wp P a w next Q:=by
 unfold Bh at h
 split at h
 ·rename_i id Vz hx
  split at h
  ·rename_i υ z n j bk
   obtain⟨e,h⟩:=bz h
   subst e
   obtain⟨b,cs,te,ki,e0,hb,hg,hM,hr,uw,h1,hq,eV,hj⟩:=hc.mem.linked bk
   have hv:=hc.ev x
   rw[hx]at hv
   simp only[VR]at hv
   obtain⟨e1,GJ,lR⟩:=hv
   rw[bk]at GJ;cases GJ
   simp only[AR]at lR
   obtain⟨hi,b',eY,hu⟩:=lR
   rw[hb]at eY;cases eY
   have hl:cs.toList.length=υ.size:=by rw[uw,eF (by simp only[aK];omega),hr.length]
   refine aZ (GD (P:=P) (cs:=cs.toList) ho (hE.ty t _ ht) (GK (rQ hq)) hu ?_ hl) (hn (.Jo υ z n j) _ [] _ _ M ν h (.refl hc.mem) ?_)
   ·have:=At.of_block hg 0 cs.toList.length
    rw[cJ,im]at this
    exact this
   ·simp only[VR]
    exact⟨_,ki,rfl,hr,by simpa [cM]using uw,hj,rQ hq⟩
  ·exact T7 hE hc ho ht h λv rd ups v' w' M' ν' h1 h2 h3=>hn v (id::rd) ups v' w' M' ν' h1 h2 h3
 ·exact T7 hE hc ho ht h hn
end VM
end
section
namespace VM
open Go
variable{P:Program}{E:Env}{o:Oper}{a:Act}{w:World}{M:Nat→Prop}{ν:Nat→Value}{σ:St}{c:Ctx}{α:Type}{r:α}{next:Act→World→Prop}{Q:Exit→Act→World→Prop}
theorem Fz.own{H H1:Nat→Option br}(h:Fz H H1){i:Nat}{e:Ty}{l:List e.den}(hi:H i=some (.own e l)):H1 i=some (.own e l)∨H1 i=some (.pM e l):=by
 rcases h i with h'|⟨e',l',h1,h2⟩
 ·exact .inl (by rw[h',hi])
 ·rw[hi]at h1;cases h1;exact .inr h2
theorem VA(hE:EnvTy P E)(hc:Core c σ a.tmps w M ν){t:TypeId}{x y:Operand}(ho:o.op= .store t x y){K:g7 α}{τ:Ty}(ht:E.ty t=some τ)
  (h:nf τ (σ.ρ x) (σ.ρ y) σ.H K=some r) (hn:fM c σ a o w M ν K r next):o.wp P a w next Q:=by
 unfold nf at h
 split at h
 ·rename_i id p hx
  obtain⟨z,rd,ups,M',h,gF,hV,hz,kE⟩:=ld (.refl _) hc.mem (hc.ev y) h
  have hv:=hc.ev x
  rw[hx]at hv
  have hvz:=VR.cg gF.cg gF.goes hv
  have zz:=hE.ty t τ ht
  have FA:=hV.cells.length
  rw[bm]at FA
  split at h
  ·rename_i υ x0 bk
   have qJ:=hz.obj bk
   obtain⟨x1,hK,DU,Je,sC⟩:=qc h
   simp only[VR]at hvz
   obtain⟨e1,GJ,lR⟩:=hvz
   rw[qJ]at GJ;cases GJ
   simp only[AR]at lR
   obtain⟨hi,b,hb,hu⟩:=lR
   have mi:=gF.mem.ke id _ qJ
   simp only[ER]at mi
   obtain⟨b',cs,te,eY,hg,hM,hr⟩:=mi
   rw[hb]at eY;cases eY
   have Je:=Je hi
   have hlc:=hr.length
   rw[bm]at hlc
   have dG:=lQ (P:=P) ho zz hu hg FA ω hV.cells.lM
   rw[bm]at dG
   have xN:Tr c (c4 σ.H ups) w M' ν (cq (c4 σ.H ups) id (some (.obj υ x1))) (w.setRow b (eJ cs.toList (cM p υ) (a.eval y).cells.toList).toArray) M' ν:=by
    refine Tr.write (e':= .obj υ x1) gF.mem qJ trivial trivial rfl (by rw[hb];rfl) hg λNq hk xO=> ?_
    simp only[ER]
    refine⟨b,_,te,hb,setRow_heap w b cs _ te _ hg,xO,?_⟩
    exact(sC w M' cs.toList _ hi hr hV.cells).cg hk
   refine pd dG ?_
   refine hn _ _ _ _ _ M' ν hK ?_ (by simp[VR])
   rw[fL]
   have:=gF.trans xN
   unfold eJ at this
   rw[bm]at this
   exact this
  ·rename_i e l bk
   split at h
   ·rename_i i q h0
    obtain⟨Br,h⟩:=nD h
    have qJ:c4 σ.H ups id=some (.own e l):=by rw[kE id Br];exact bk
    obtain⟨y1,hK,DU,Je,sC⟩:=qc h
    simp only[VR]at hvz
    obtain⟨e1,GJ,lR⟩:=hvz
    rw[qJ]at GJ;cases GJ
    simp only[AR]at lR
    obtain⟨i',q',hpq,Bp,hi,b,n,cp,hb,hu⟩:=lR
    cases hpq
    have mi:=gF.mem.ke id _ qJ
    simp only[ER]at mi
    rcases mi with⟨rfl,_⟩|⟨b',cs,te,cap,eY,hg,hM,T4,hl,Fy,hs,hr⟩
    ·simp at Bp
    ·rw[hb]at eY;cases eY
     have Je:=Je hi
     have uv:=ew (s:=e.size) Bp
     have yZ:l.length*e.size≤cp*e.size:=kC _ hl
     have dG:=lQ (P:=P) ho zz hu hg FA ω hV.cells.lM
     rw[bm]at dG
     have hri:=hr i Bp
     rw[←lN l i e.zero Bp]at hri
     have oW:=sC w M' _ _ hi hri hV.cells
     have hch:((cs.toList.drop (i*e.size)).take e.size).length=e.size:=hri.length
     have acg:eJ cs.toList (i*e.size) (eJ ((cs.toList.drop (i*e.size)).take e.size) (cM q e) (a.eval y).cells.toList)=eJ cs.toList (i*e.size+cM q e) (a.eval y).cells.toList:=by
      have hl3:=oW.length
      have e1:cs.toList=cs.toList.take (i*e.size)++(((cs.toList.drop (i*e.size)).take e.size)++cs.toList.drop (i*e.size+e.size)):=by
       rw[←iJ,gP,gP]
      have eV:(cs.toList.take (i*e.size)).length=i*e.size:=by rw[cf,bm];omega
      conv=>rhs;rw[e1]
      rw[show i*e.size+cM q e=(cs.toList.take (i*e.size)).length+cM q e from by rw[eV],yV,Bj (by rw[hch,bm];omega)]
      generalize eJ ((cs.toList.drop (i*e.size)).take e.size) (cM q e) (a.eval y).cells.toList=m at hl3 ⊢
      unfold eJ
      rw[hl3,bD]
     have xN:Tr c (c4 σ.H ups) w M' ν (cq (c4 σ.H ups) id (some (.own e (List.set l i y1)))) (w.setRow b (eJ cs.toList (i*e.size+cM q e) (a.eval y).cells.toList).toArray) M' ν:=by
      refine Tr.write (e':= .own e (List.set l i y1)) gF.mem qJ trivial trivial ⟨rfl,by rw[bU]⟩ (by rw[hb];simp[fx];omega) hg λNq hk xO=> ?_
      simp only[ER]
      refine .inr ⟨b,_,te,cp,by rw[bU];exact hb,setRow_heap w b cs _ te _ hg,xO,T4,by rw[bU];exact hl,Fy,?_,?_⟩
      ·rw[←acg,jg,eF (by rw[oW.length,bm];omega),bm];exact hs
      ·have h9:cs.toList.length=cp*e.size:=by rw[bm,hs]
       have h10:=pO.set (w:=w) (M:=M') (cs:=cs.toList) (l:=l) hr (by rw[h9];exact yZ) Bp oW
       rw[acg]at h10
       exact λj hj=>(h10 j hj).cg hk
     refine pd dG ?_
     refine hn _ _ _ _ _ M' ν hK ?_ (by simp[VR])
     rw[fL]
     have:=gF.trans xN
     unfold eJ at this
     rw[bm]at this
     exact this
   ·cases h
  ·cases h
 ·cases h
theorem Fz.gn{H H1:Nat→Option br}(h:Fz H H1){i:Nat}{τ:Ty}{x:τ.den}{p:List Step}{j:Nat}(hi:H i=some (.gn τ x p j)):H1 i=some (.gn τ x p j):=by
 rcases h i with h'|⟨e',l',h1,h2⟩
 ·rw[h',hi]
 ·rw[hi]at h1;cases h1
theorem z8{β:Type}{l a:List β}{o:Nat}(hl:o+a.length≤l.length)(i:Nat):(eJ l o a)[i]? =if o≤i∧i<o+a.length then a[i-o]? else l[i]? :=by
 unfold eJ
 by_cases h1:i<o
 ·rw[ah ω,bD,tJ (by simp;omega),mY,ak h1]
 ·by_cases h2:i<o+a.length
  ·rw[ak ω,tJ (by simp;omega),pI (by simp;omega)]
   simp[iq (show o≤l.length by omega)]
  ·rw[ah ω,pI (by simp;omega)]
   simp only[aS,cf,iq (show o≤l.length by omega),mZ]
   congr 1;omega
theorem Ob{β:Type}{l a b:List β}{o o':Nat}(h:o'≤o∧o+a.length≤o'+b.length)(h1:o+a.length≤l.length)(h2:o'+b.length≤l.length):eJ (eJ l o a) o' b=eJ l o' b:=by
 have l1:=eF (a:=l) (o:=o) (new:=a) h1
 apply AY
 intro i
 rw[z8 ω,z8 ω,z8 ω]
 by_cases c1:o'≤i∧i<o'+b.length
 ·rw[ak c1,ak c1]
 ·rw[ah c1,ah c1,ah ω]
theorem u2{β:Type}{l:List β}{o:Nat}{u v:β}(h:o<l.length):eJ (eJ l o [u]) o [v]=eJ l o [v]:=
 Ob (by simp) (by simp;omega) (by simp;omega)
theorem Oc{β:Type}{l a b:List β}{o o':Nat}(h:o+a.length≤o'∨o'+b.length≤o)(h1:o+a.length≤l.length)(h2:o'+b.length≤l.length):eJ (eJ l o a) o' b=eJ (eJ l o' b) o a:=by
 have l1:=eF (a:=l) (o:=o) (new:=a) h1
 have l2:=eF (a:=l) (o:=o') (new:=b) h2
 apply AY
 intro i
 rw[z8 ω,z8 ω,z8 ω,z8 ω]
 by_cases c1:o'≤i∧i<o'+b.length
 ·rw[ak c1,ah ω,ak c1]
 ·rw[ah c1]
  by_cases c2:o≤i∧i<o+a.length
  ·rw[ak c2,ak c2]
  ·rw[ah c2,ah c2,ah c1]
theorem Od{m:(υ:Ty)→υ.den→(υ.den→Option α)→Option α}: ∀{τ:Ty} {x:τ.den} {n:Nat} {k:τ.den→Option α},fV τ x n m k=some r→ ∃υ y o k',DP τ x n υ y o∧m υ y k'=some r:=λh=>by
 obtain⟨υ,y,o,k',h1,h2,_⟩:=lf h
 exact⟨υ,y,o,k',h1,h2⟩
theorem GM{υ:Ty}{u:υ.den}: ∀{p:List Step} {τ:Ty} {x:τ.den} {k:τ.den→Option α},wZ υ u p τ x k=some r→ ∃y o,LA p τ x υ y o
 |[],τ,x,k,h=>by
  obtain⟨e,_⟩:=bz (h:cP υ τ u k=some r)
  subst e
  exact⟨x,0,.nil x⟩
 | .iK n::p,τ,x,k,h=>by
  obtain⟨υ',y,o,k',hf,hm⟩:=Od (h:fV τ x n _ k=some r)
  obtain⟨y',o',hp⟩:=GM (k:=k') hm
  exact⟨y',_,.iK hf hp⟩
 | .idx i::p,τ,x,k,h=>by
  cases τ with
  |arr n e=>
   obtain⟨y',o',hp⟩:=GM (p:=p) (τ:=e) (x:=γ x i e.zero) (k:=λz=>k (List.set x i z)) h
   exact⟨y',_,.idx hp⟩
  |_=>simp[wZ,Ft]at h
theorem Ka: ∀{p q:List Step} {τ e:Ty},zt p q=true→gm q τ (.slice e)=true→cM p τ≤cM q τ∧cM q τ+1≤cM p τ+(Jr p τ).size
 |[],q,τ,e,_,hq=>by
  obtain⟨_,_,zy⟩:=uY hq τ.zero
  have:=zy.bound (lO hq).1
  have h2:=zy.eq.2
  have:(Ty.slice e).size=1:=rfl
  simp only[cM,Jr]
  omega
 | .iK a::p,.iK b::q,τ,e,hp,hq=>by
  simp only[zt,bP]at hp
  have:=fA hp.1
  subst this
  unfold gm at hq
  split at hq
  ·rename_i c hc
   obtain⟨_,_,hf⟩:=og hc τ.zero
   have:=hf.eq.1
   subst this
   have:=Ka hp.2 hq
   simp only[cM,Jr]
   omega
  ·cases hq
 | .iK _::_,[],_,_,hp,_| .iK _::_,.idx _::_,_,_,hp,_| .idx _::_,_,_,_,hp,_=>by simp[zt]at hp
theorem ER.VB{H:Nat→Option br}(hm:Mem c H w M ν){k:Nat}{e:Ty}{l:List e.den}(hk:H k=some (.own e l)): ∃ad cp,ν k= .slice ad l.length cp:=by
 have:=hm.ke k _ hk
 simp only[ER]at this
 rcases this with⟨rfl,a,hv⟩|⟨b,cs,t,cap,hv,_⟩
 ·exact⟨a,0,hv⟩
 ·exact⟨_,cap,hv⟩
theorem GN(hE:EnvTy P E)(hc:Core c σ a.tmps w M ν){t:TypeId}{x y:Operand}(ho:o.op= .store t x y){K:g7 α}{τ:Ty}(ht:E.ty t=some τ){id k:Nat}{q:List Step}{e:Ty}{υ:Ty}{z:υ.den}
  (hx:σ.ρ x= .jH id q) (hy:σ.ρ y= .ref k) {en:br} (bk:σ.H id=some en) (hen:en.mut) (Bs:en.lP (.gn υ z q k)) (hq:gm q υ (.slice e)=true)
  (mF: ∃b cs te ki u,ν id= .pointer (some ⟨b,0,none⟩)∧w.heap[b]? =some (.cells cs te (0,0))∧Rd w M υ ki z∧cs.toList=eJ ki (cM q υ) [u])
  (h:DM τ id k e q υ z σ.H K=some r) (hn:fM c σ a o w M ν K r next):o.wp P a w next Q:=by
 unfold DM at h
 split at h
 ·rename_i e' l hk
  obtain⟨e1,h1⟩:=dW h
  clear h
  subst e1
  obtain⟨e2,h2⟩:=dW h1
  clear h1
  subst e2
  obtain⟨z',hK,DU,Je,sC⟩:=qc h2
  obtain⟨b,cs,te,ki,u,hb,hg,hr,uw⟩:=mF
  have Sk:=(lO hq).1
  obtain⟨ad,cp,hνk⟩:=ER.VB hc.mem hk
  have Bt:=hc.ev y
  rw[hy]at Bt
  simp only[VR]at Bt
  have Bt:=Bt.2
  have Je:=Je Sk
  have hlen:=hr.length
  have Nr:(Ty.slice e').size=1:=rfl
  have eV:cM q υ<ki.length:=ω
  have FA:cs.toList.length=ki.length:=by rw[uw];exact eF (by simp;omega)
  have hv:=hc.ev x
  rw[hx]at hv
  simp only[VR]at hv
  obtain⟨e3,he3,lR⟩:=hv
  rw[bk]at he3;cases he3
  have lR:=lR.lP Bs
  simp only[AR]at lR
  obtain⟨_,b',eY,hu⟩:=lR
  rw[hb]at eY;cases eY
  have hyc:(a.eval y).cells.toList=[ν k]:=by rw[Bt,hνk];rfl
  have q6:(a.eval y).cells.size=(Ty.slice e').size:=by rw[←bm,hyc];rfl
  have dG:=lQ (P:=P) ho (hE.ty t _ ht) hu hg q6 (by rw[←bm];omega) (by rw[hyc,hνk];simp[Value.oneCell'])
  have oW:(cs.toList.take (cM q υ)++(a.eval y).cells.toList++cs.toList.drop (cM q υ+(a.eval y).cells.toList.length))=eJ ki (cM q υ) [ν k]:=by
   rw[hyc]
   show eJ cs.toList (cM q υ) [ν k]=_
   rw[uw,u2 eV]
  rw[oW]at dG
  have hrz:Rd w M υ (eJ ki (cM q υ) [.slice none 0 0]) z':=sC w M ki [.slice none 0 0] Sk hr (Rd.zero w M (.slice e'))
  have gF:Tr c σ.H w M ν (cq σ.H id (some (.gn υ z' q k))) (w.setRow b (eJ ki (cM q υ) [ν k]).toArray) M ν:=by
   refine Tr.write (e':= .gn υ z' q k) hc.mem bk hen trivial (by cases en<;>simp only[br.lP]at Bs ⊢ <;>exact Bs) (by rw[hb];rfl) hg (λNq Bu xO=> ?_) (fun τ' x' p' j' hl=> ?_)
   ·simp only[ER]
    refine⟨b,_,te,eJ ki (cM q υ) [.slice none 0 0],ν k,hb,setRow_heap w b cs _ te _ hg,xO,hrz.cg Bu,?_,by rw[hνk];rfl,e',hq⟩
    rw[u2 eV]
   ·cases hl
    refine⟨by rw[hk];simp,b,hb,?_⟩
    rw[cell_of (setRow_heap w b cs _ te _ hg),←iH]
    show(eJ ki (cM q υ) [ν k])[cM q υ]? =_
    rw[yW eV]
  exact pd dG (hn _ _ _ _ _ M ν hK gF (by simp[VR]))
 ·cases h
theorem GO(hE:EnvTy P E)(hc:Core c σ a.tmps w M ν){t:TypeId}{x y:Operand}(ho:o.op= .store t x y){K:g7 α}{τ:Ty}(ht:E.ty t=some τ)
  (h:kX E τ (σ.ρ x) (σ.ρ y) σ.H K=some r) (hn:fM c σ a o w M ν K r next):o.wp P a w next Q:=by
 have hold:nf τ (σ.ρ x) (σ.ρ y) σ.H K=some r→o.wp P a w next Q:=λh=>VA hE hc ho ht h hn
 unfold kX at h
 simp only at h
 split at h
 ·rename_i id p hx
  have o7:=hx
  split at h
  ·rename_i υ z bk
   split at h
   ·rename_i q e k q5 hy
    cases hp:Nl p q
    ·rw[hp]at h;exact hold h
    ·rw[hp]at h
     simp only[aj]at h
     have:=zX hp
     subst this
     have hq:=sB q5
     have mi:=hc.mem.ke id _ bk
     simp only[ER]at mi
     obtain⟨b,cs,te,hb,hg,hM,hr⟩:=mi
     have eV:cM p υ<cs.toList.length:=by
      obtain⟨_,_,zy⟩:=uY hq z
      have:=zy.bound (lO hq).1
      have h2:=zy.eq.2
      have:=hr.length
      have:(Ty.slice e).size=1:=rfl
      omega
     refine GN hE hc ho ht hx hy bk trivial rfl hq ⟨b,cs,te,cs.toList,cs.toList[cM p υ],hb,hg,hr,?_⟩ h hn
     exact(Gx (bl eV)).symm
   ·exact hold h
  ·rename_i υ z q j bk
   obtain⟨b,cs,te,ki,e0,hb,hg,hM,hr,uw,h1,hq,eV,hj⟩:=hc.mem.linked bk
   have Bv:m9 true (σ.ρ y) σ.H τ (λy rd ups=>wZ τ y p υ z λz=>K .any (id::rd) (ups++[(id,some (cond (zt p q) (.obj υ z) (.gn υ z q j)))]))=some r→o.wp P a w next Q:=by
    intro h
    obtain⟨u,rd,ups,M',h,gF,hV,hz,kE⟩:=ld (.refl _) hc.mem (hc.ev y) h
    have qJ:=hz.gn bk
    have hv:=hc.ev x
    rw[hx]at hv
    have hvz:=VR.cg gF.cg gF.goes hv
    simp only[VR]at hvz
    obtain⟨e1,GJ,lR⟩:=hvz
    rw[qJ]at GJ;cases GJ
    simp only[AR]at lR
    obtain⟨hi,b1,nC,hu⟩:=lR
    rw[hb]at nC;cases nC
    obtain⟨b2,T8,te2,cs3,e3,vx,Ym,LF,z6,aci,h12,hq2,aps,hj2⟩:=gF.mem.linked qJ
    rw[hb]at vx;cases vx
    rw[hg]at Ym;cases Ym
    obtain⟨z',hK,DU,Je,sC⟩:=qc h
    have Je:=Je hi
    have hlc:=z6.length
    have FA:cs.toList.length=cs3.length:=by rw[aci];exact eF (by simp;omega)
    have hcy:=hV.cells.length
    rw[bm]at hcy
    have aCN:(a.eval y).cells.toList.length=τ.size:=by rw[bm];exact hcy
    have dG:=lQ (P:=P) ho (hE.ty t _ ht) hu hg hcy (by rw[←bm];omega) hV.cells.lM
    have Oe:cs.toList.take (cM p υ)++(a.eval y).cells.toList++cs.toList.drop (cM p υ+(a.eval y).cells.toList.length)=eJ cs.toList (cM p υ) (a.eval y).cells.toList:=rfl
    rw[Oe]at dG
    have hzr:=sC w M' cs3 _ hi z6 hV.cells
    have fin: ∀e',e'.mut→br.lP (.gn υ z q j) e'→K .any (id::rd) (ups++[(id,some e')])=some r→(∀Nq,fK w M' (w.setRow b (eJ cs.toList (cM p υ) (a.eval y).cells.toList).toArray) Nq→Nq b→ER (w.setRow b (eJ cs.toList (cM p υ) (a.eval y).cells.toList).toArray) Nq (ν id) e')→
      (∀τ' x' p' j',e'= .gn τ' x' p' j'→(c4 σ.H ups) j'≠none∧ ∃b',ν id= .pointer (some ⟨b',0,none⟩)∧(w.setRow b (eJ cs.toList (cM p υ) (a.eval y).cells.toList).toArray).cell? ⟨b',cM p' τ',none⟩=some (ν j'))→o.wp P a w next Q:=by
     intro e' jh Jb hK Vv q5
     have xN:=Tr.write (e':=e') gF.mem qJ trivial jh Jb (by rw[hb];rfl) hg Vv q5
     refine pd dG (hn _ _ _ _ _ M' ν hK ?_ (by simp[VR]))
     rw[fL]
     exact gF.trans xN
    cases Jc:zt p q
    ·rw[Jc]at hK
     simp only[av]at hK
     obtain⟨yy,oo,zy⟩: ∃y o,LA p υ z τ y o:=GM h
     have hap:=zy.apart hi hq Jc
     have hoo:=zy.eq.2
     subst hoo
     have ai1:eJ cs.toList (cM p υ) (a.eval y).cells.toList=eJ (eJ cs3 (cM p υ) (a.eval y).cells.toList) (cM q υ) [ν j]:=by
      rw[aci]
      exact Oc (by simp only[aK];omega) (by simp only[aK];omega) ω
     have hl3:=eF (a:=cs3) (o:=cM p υ) (new:=(a.eval y).cells.toList) ω
     refine fin (.gn υ z' q j) trivial rfl hK (λNq hk xO=> ?_) (fun τ' x' p' j' hl=> ?_)
     ·simp only[ER]
      exact⟨b,_,te,_,ν j,hb,setRow_heap w b cs _ te _ hg,xO,hzr.cg hk,ai1,h1,e0,hq⟩
     ·cases hl
      refine⟨hj2,b,hb,?_⟩
      rw[cell_of (setRow_heap w b cs _ te _ hg),←iH]
      show(eJ cs.toList (cM p υ) (a.eval y).cells.toList)[cM q υ]? =_
      rw[ai1,yW ω]
    ·rw[Jc]at hK
     simp only[aj]at hK
     refine fin (.obj υ z') trivial rfl hK (λNq hk xO=> ?_) (fun τ' x' p' j' hl=>by cases hl)
     simp only[ER]
     refine⟨b,_,te,hb,setRow_heap w b cs _ te _ hg,xO,?_⟩
     show Rd _ _ υ (eJ cs.toList (cM p υ) (a.eval y).cells.toList) z'
     have kg:=Ka Jc hq
     rw[DU]at kg
     have ho:eJ cs.toList (cM p υ) (a.eval y).cells.toList=eJ cs3 (cM p υ) (a.eval y).cells.toList:=by
      rw[aci]
      exact Ob (by simp only[aK];omega) (by simp only[aK];omega) ω
     have h9:=hzr.cg hk
     rw[←ho]at h9
     exact h9
   split at h
   ·rename_i q' e k q5 hy
    cases hp:(Nl p q&&Nl q q')
    ·rw[hp]at h;exact Bv h
    ·rw[hp]at h
     simp only[aj]at h
     rw[bP]at hp
     have:=zX hp.1
     subst this
     have:=zX hp.2
     subst this
     refine GN hE hc ho ht hx hy bk trivial rfl (sB q5) ⟨b,cs,te,ki,ν j,hb,hg,hr,uw⟩ h hn
   ·exact Bv h
  ·exact hold h
 ·exact hold h
theorem VC(hE:EnvTy P E)(hc:Core c σ a.tmps w M ν){t:TypeId}{x y:Operand}(ho:o.op= .store t x y){K:g7 α}{τ:Ty}(ht:E.ty t=some τ)
  (h:uq E τ (σ.ρ x) (σ.ρ y) σ.H K=some r) (hn:fM c σ a o w M ν K r next):o.wp P a w next Q:=by
 unfold uq at h
 split at h
 ·rename_i id υ z n hx hy
  split at h
  ·rename_i m e q5
   cases CJ:Nat.beq m n
   ·rw[CJ]at h
    simp only[av]at h
    exact GO hE hc ho ht h hn
   ·rw[CJ]at h
    simp only[aj]at h
    have CJ:=fA CJ
    subst CJ
    obtain⟨e1,h1⟩:=dW h
    clear h
    subst e1
    have hq:=sB q5
    have Bt:=hc.ev y
    rw[hy]at Bt
    simp only[VR]at Bt
    obtain⟨hV,cs,ad,hva,hz⟩:=Bt
    have hcy:(a.eval y).cells=cs:=by rw[hva];rfl
    obtain⟨en,bk,hen,hK⟩: ∃en:br,σ.H id=some en∧(∃z0,en= .obj τ z0∨ ∃q j,en= .gn τ z0 q j)∧σ.H (id+2)=none∧K .any [id,id+2] [(id,some (.gn τ z [.iK m] (id+2))),(id+2,some (.own e []))]=some r:=by
     unfold mf at h1
     split at h1
     ·rename_i υ z0 bk
      obtain⟨e2,h2⟩:=dW h1
      clear h1
      subst e2
      obtain⟨h3,h4⟩:=mE h2
      exact⟨_,bk,⟨z0,.inl rfl⟩,h3,h4⟩
     ·rename_i υ z0 q j bk
      obtain⟨e2,h2⟩:=dW h1
      clear h1
      subst e2
      obtain⟨h3,h4⟩:=mE h2
      exact⟨_,bk,⟨z0,.inr ⟨q,j,rfl⟩⟩,h3,h4⟩
     ·cases h1
     ·cases h1
     ·cases h1
    obtain⟨hk,hK⟩:=hK
    have ako:en.mut:=by rcases hen with⟨z0,rfl|⟨q,j,rfl⟩⟩<;>trivial
    have Bs:en.lP (.obj τ z):=by rcases hen with⟨z0,rfl|⟨q,j,rfl⟩⟩<;>rfl
    obtain⟨b,ki,te,hb,hg,q6⟩: ∃b ki te,ν id= .pointer (some ⟨b,0,none⟩)∧w.heap[b]? =some (.cells ki te (0,0))∧ki.toList.length=τ.size:=by
     rcases hen with⟨z0,rfl|⟨q,j,rfl⟩⟩
     ·have:=hc.mem.ke id _ bk
      simp only[ER]at this
      obtain⟨b,ki,te,h2,h3,_,h5⟩:=this
      exact⟨b,ki,te,h2,h3,h5.length⟩
     ·obtain⟨b,ki,te,Aa,_,h2,h3,_,h5,h6,_,_,h7,_⟩:=hc.mem.linked bk
      refine⟨b,ki,te,h2,h3,?_⟩
      rw[h6,eF (by simp only[aK];omega),h5.length]
    have hv:=hc.ev x
    rw[hx]at hv
    simp only[VR]at hv
    obtain⟨e3,he3,lR⟩:=hv
    rw[bk]at he3;cases he3
    have lR:=lR.lP Bs
    simp only[AR]at lR
    obtain⟨_,b',eY,hu⟩:=lR
    rw[hb]at eY;cases eY
    have FA:=hV.cells.length
    have dG:=lQ (P:=P) ho (hE.ty t _ ht) hu hg (by rw[←bm];exact FA) (by rw[←bm,q6];simp[cM]) hV.cells.lM
    have Oe:ki.toList.take (cM [] τ)++(a.eval y).cells.toList++ki.toList.drop (cM [] τ+(a.eval y).cells.toList.length)=(a.eval y).cells.toList:=by
     simp only[cM,mB,cB,gr]
     rw[jN ω,cy]
    rw[Oe]at dG
    have sC:=setRow_heap w b ki (a.eval y).cells.toList.toArray te _ hg
    have gF:=Tr.write (e':= .obj τ z) (new:=(a.eval y).cells.toList.toArray) hc.mem bk ako trivial Bs (by rw[hb];rfl) hg (λNq Bu xO=>by
     simp only[ER]
     exact⟨b,_,te,hb,sC,xO,hV.cells.cg Bu⟩)
    have kQ:id+2≠id:=ω
    have xN:=Tr.Yk gF.mem (id:=id) (k:=id+2) (by rw[az _ _ kQ];exact hk) (ay _ _ _) hb sC hq (ad:=ad) (by rw[hcy];simpa [cM]using hz)
    have e1:c4 (cq σ.H id (some (.obj τ z))) [(id,some (.gn τ z [.iK m] (id+2))),(id+2,some (.own e []))]=c4 σ.H [(id,some (.gn τ z [.iK m] (id+2))),(id+2,some (.own e []))]:=by
     show cq (cq (cq σ.H id _) id _) (id+2) _=cq (cq σ.H id _) (id+2) _
     rw[zY]
    rw[e1]at xN
    exact pd dG (hn _ _ _ _ _ _ _ hK (gF.trans xN) (by simp[VR]))
  ·exact GO hE hc ho ht h hn
 ·exact GO hE hc ho ht h hn
theorem VE(hE:EnvTy P E)(hc:Core c σ a.tmps w M ν){t:TypeId}{x y:Operand}(ho:o.op= .store t x y){K:g7 α}{τ:Ty}(ht:E.ty t=some τ)
  (h:xF E τ (σ.ρ x) (σ.ρ y) σ.H K=some r) (hn:fM c σ a o w M ν K r next):o.wp P a w next Q:=by
 unfold xF at h
 split at h
 ·rename_i id υ z n j hx hy
  split at h
  ·rename_i m e q5
   obtain⟨CJ,h0⟩:=cD h
   clear h
   have CJ:=fA CJ
   subst CJ
   obtain⟨e1,h1⟩:=dW h0
   clear h0
   subst e1
   have hq:=sB q5
   have Bt:=hc.ev y
   rw[hy]at Bt
   simp only[VR]at Bt
   obtain⟨cs,ki,hva,hzr,uw,hj,w5⟩:=Bt
   have hcy:(a.eval y).cells=cs:=by rw[hva];rfl
   obtain⟨en,bk,hen,h2⟩: ∃en:br,σ.H id=some en∧(∃z0,en= .obj τ z0∨ ∃q j,en= .gn τ z0 q j)∧(match σ.H j with
    |some (.own e' _)=>ju e' e (K .any [id,j] [(id,some (.gn τ z [.iK m] j))])
    |_=>none)=some r:=by
    unfold mf at h1
    split at h1
    ·rename_i υ z0 bk
     obtain⟨e2,h2⟩:=dW h1
     clear h1
     subst e2
     exact⟨_,bk,⟨z0,.inl rfl⟩,h2⟩
    ·rename_i υ z0 q j bk
     obtain⟨e2,h2⟩:=dW h1
     clear h1
     subst e2
     exact⟨_,bk,⟨z0,.inr ⟨q,j,rfl⟩⟩,h2⟩
    ·cases h1
    ·cases h1
    ·cases h1
   obtain⟨l,Bq,hK⟩: ∃l,σ.H j=some (.own e l)∧K .any [id,j] [(id,some (.gn τ z [.iK m] j))]=some r:=by
    split at h2
    ·rename_i e' l Bq
     obtain⟨e3,h3⟩:=dW h2
     clear h2
     subst e3
     exact⟨l,Bq,h3⟩
    ·cases h2
   have CG:(ν j).oneCell'=true:=by
    have:=hc.mem.ke j _ Bq
    simp only[ER]at this
    rcases this with⟨_,ad,hv⟩|⟨b,cs,t,cap,hv,_⟩<;>rw[hv]<;>rfl
   have ako:en.mut:=by rcases hen with⟨z0,rfl|⟨q,j,rfl⟩⟩<;>trivial
   have Bs:en.lP (.gn τ z [.iK m] j):=by rcases hen with⟨z0,rfl|⟨q,j,rfl⟩⟩<;>rfl
   obtain⟨b,T8,te,hb,hg,q6⟩: ∃b T8 te,ν id= .pointer (some ⟨b,0,none⟩)∧w.heap[b]? =some (.cells T8 te (0,0))∧T8.toList.length=τ.size:=by
    rcases hen with⟨z0,rfl|⟨q,j,rfl⟩⟩
    ·have:=hc.mem.ke id _ bk
     simp only[ER]at this
     obtain⟨b,ki,te,h2,h3,_,h5⟩:=this
     exact⟨b,ki,te,h2,h3,h5.length⟩
    ·obtain⟨b,ki,te,Aa,_,h2,h3,_,h5,h6,_,_,h7,_⟩:=hc.mem.linked bk
     refine⟨b,ki,te,h2,h3,?_⟩
     rw[h6,eF (by simp only[aK];omega),h5.length]
   have hv:=hc.ev x
   rw[hx]at hv
   simp only[VR]at hv
   obtain⟨e3,he3,lR⟩:=hv
   rw[bk]at he3;cases he3
   have lR:=lR.lP Bs
   simp only[AR]at lR
   obtain⟨_,b',eY,hu⟩:=lR
   rw[hb]at eY;cases eY
   obtain⟨y0,o0,hf0⟩:=og (z7 w5).choose_spec.2 z
   have hfb:=hf0.bound
   rw[hf0.eq.2]at hfb
   have Nr:(Ty.slice (z7 w5).choose).size=1:=rfl
   rw[Nr]at hfb
   have hl0:=hzr.length
   have eV:gE τ m<ki.length:=ω
   have FA:cs.toList.length=τ.size:=by rw[uw,eF (by simp only[aK];omega),hl0]
   have akp: ∀v∈cs.toList,v.oneCell'=true:=by
    intro v hv
    rw[uw]at hv
    unfold eJ at hv
    simp only[bn,cw]at hv
    rcases hv with(hv|hv)|hv
    ·exact hzr.lM v (lJ hv)
    ·rw[hv];exact CG
    ·exact hzr.lM v (mW hv)
   have dG:=lQ (P:=P) ho (hE.ty t _ ht) hu hg (by rw[hcy,←bm];exact FA) (by rw[←bm,q6];simp[cM]) (by rw[hcy];exact akp)
   have Oe:T8.toList.take (cM [] τ)++(a.eval y).cells.toList++T8.toList.drop (cM [] τ+(a.eval y).cells.toList.length)=cs.toList:=by
    rw[hcy]
    simp only[cM,mB,cB,gr]
    rw[jN ω,cy]
   rw[Oe]at dG
   have sC:=setRow_heap w b T8 cs.toList.toArray te _ hg
   have apt:cM [.iK m] τ=gE τ m:=by simp[cM]
   have gF:=Tr.write (e':= .gn τ z [.iK m] j) (new:=cs.toList.toArray) hc.mem bk ako trivial Bs (by rw[hb];rfl) hg (λNq Bu xO=>by
    simp only[ER]
    exact⟨b,_,te,ki,ν j,hb,sC,xO,hzr.cg Bu,by rw[apt];exact uw,CG,e,hq⟩) (fun τ' x' p' j' hl=>by
    cases hl
    refine⟨hj,b,hb,?_⟩
    rw[cell_of sC,apt]
    show cs.toList.toArray[gE τ m]? =_
    rw[Gb,uw,yW eV])
   exact pd dG (hn _ _ _ _ _ _ _ hK gF (by simp[VR]))
  ·cases h
 ·exact VC hE hc ho ht h hn
end VM
end
section
namespace VM
open Go
variable{P:Program}{E:Env}{o:Oper}{a:Act}{w:World}{M:Nat→Prop}{ν:Nat→Value}{σ:St}{c:Ctx}{α:Type}{r:α}{next:Act→World→Prop}{Q:Exit→Act→World→Prop}
theorem nb{n:Nat}(h:Nat.beq n 0=false):n≠0:=by rw[←lK,xx]at h;exact h
theorem At.sub{b off:Nat}{cs:List Value}(h:At w b off cs)(o n:Nat):At w b (off+o) ((cs.drop o).take n):=by
 intro j v hj
 rw[mY]at hj
 split at hj
 ·rw[mZ]at hj
  have:=h _ v hj
  rwa [←p6]at this
 ·cases hj
def xP:br→List Step→Option Ty
 | .obj τ _,p=>some (Jr p τ)
 | .gn τ _ _ _,p=>some (Jr p τ)
 | .own e _,.idx _::p| .pM e _,.idx _::p=>some (Jr p e)
 |_,_=>none
theorem GP{id:Nat}{p:List Step}{H:Nat→Option br}{k:Ty→Option α}(h:mf id p H k=some r): ∃e υ,H id=some e∧xP e p=some υ∧k υ=some r:=by
 unfold mf at h
 split at h
 ·rename_i τ x bk
  obtain⟨υ,y,o,hp,hk⟩:=la h
  exact⟨_,υ,bk,by simp[xP,hp.eq.1],hk⟩
 ·rename_i τ x _ _ bk
  obtain⟨υ,y,o,hp,hk⟩:=la h
  exact⟨_,υ,bk,by simp[xP,hp.eq.1],hk⟩
 ·rename_i e l bk
  split at h
  ·obtain⟨υ,y,o,hp,hk⟩:=la h
   exact⟨_,υ,bk,by simp[xP,hp.eq.1],hk⟩
  ·cases h
 ·rename_i e l bk
  split at h
  ·obtain⟨υ,y,o,hp,hk⟩:=la h
   exact⟨_,υ,bk,by simp[xP,hp.eq.1],hk⟩
  ·cases h
 ·cases h
theorem AR.step{v:Value}{p:List Step}{u:Value}{e:br}{υ:Ty}(h:AR v p u e)(ht:xP e p=some υ)(s:Step)(hs:zx [s] υ):
  ∃b off,u= .pointer (some ⟨b,off,none⟩)∧AR v (p++[s]) (.pointer (some ⟨b,off+cM [s] υ,none⟩)) e:=by
 cases e with
 |obj τ x=>
  simp only[xP,iI]at ht
  simp only[AR]at h ⊢
  obtain⟨hi,b,hb,rfl⟩:=h
  subst ht
  exact⟨b,_,rfl,(tO p [s] τ).2 ⟨hi,hs⟩,b,hb,by rw[tN]⟩
 |gn τ x _ _=>
  simp only[xP,iI]at ht
  simp only[AR]at h ⊢
  obtain⟨hi,b,hb,rfl⟩:=h
  subst ht
  exact⟨b,_,rfl,(tO p [s] τ).2 ⟨hi,hs⟩,b,hb,by rw[tN]⟩
 |own e l=>
  simp only[AR]at h ⊢
  obtain⟨i,q,rfl,Bp,hi,b,n,cp,hb,rfl⟩:=h
  simp only[xP,iI]at ht
  subst ht
  exact⟨b,_,rfl,i,q++[s],rfl,Bp,(tO q [s] e).2 ⟨hi,hs⟩,b,n,cp,hb,by rw[tN,p6]⟩
 |pM e l=>
  simp only[AR]at h ⊢
  obtain⟨i,q,rfl,Bp,hi,b,n,cp,hb,rfl⟩:=h
  simp only[xP,iI]at ht
  subst ht
  exact⟨b,_,rfl,i,q++[s],rfl,Bp,(tO q [s] e).2 ⟨hi,hs⟩,b,n,cp,hb,by rw[tN,p6]⟩
 |gone=>simp[xP]at ht
theorem CK(hE:EnvTy P E)(hc:Core c σ a.tmps w M ν){t:TypeId}{x:Operand}{n:Nat}(ho:o.op= .fieldAddr t x n){K:g7 α}{τ:Ty}(ht:E.ty t=some τ){id:Nat}{p:List Step}(hx:σ.ρ x= .jH id p)
  (h:mf id p σ.H (fun υ=>ju υ τ (vE τ τ.zero n fun υ' _=>cond (Nat.beq υ'.size 0) none (K (.jH id (p++[.iK n])) [id] [])))=some r) (hn:fM c σ a o w M ν K r next):o.wp P a w next Q:=by
 obtain⟨e,υ,bk,het,h⟩:=GP h
 obtain⟨he_,h_⟩:=dW h
 clear h
 subst he_
 have h:=h_
 clear h_
 obtain⟨υ',y,of,hf,h⟩:=qb h
 obtain⟨hz,h⟩:=nD h
 have hv:=hc.ev x
 rw[hx]at hv
 simp only[VR]at hv
 obtain⟨e',uF,lR⟩:=hv
 rw[bk]at uF;cases uF
 obtain⟨b,off,hu,akr⟩:=lR.step het (.iK n) trivial
 obtain⟨fs,f,R6,hff,hfo,FB⟩:=(hE.ty t υ ht).iK hf
 obtain⟨v,dG,hvv⟩:=uZ (P:=P) ho (w:=w) R6 hff FB (nb hz) hu
 refine aZ dG (hn _ _ _ _ _ M ν h (.refl hc.mem) ?_)
 simp only[VR]
 refine⟨e,bk,?_⟩
 rw[hvv,hfo,hf.eq.2]
 simpa [cM]using akr
theorem Bx(hE:EnvTy P E)(hc:Core c σ a.tmps w M ν){t:TypeId}{x:Operand}{n:Nat}(ho:o.op= .fieldAddr t x n){K:g7 α}{τ:Ty}(ht:E.ty t=some τ){υ:Ty}{z:υ.den}(hx:σ.ρ x= .su υ z)
  (h:ju υ τ (vE υ z n fun υ y=>cond (Nat.beq υ.size 0) none (K (.su υ y) [] []))=some r) (hn:fM c σ a o w M ν K r next):o.wp P a w next Q:=by
 obtain⟨he,h1⟩:=dW h
 subst he
 obtain⟨υ',y,of,hf,h⟩:=qb h1
 obtain⟨hz,h⟩:=nD h
 have hv:=hc.ev x
 rw[hx]at hv
 simp only[VR]at hv
 obtain⟨b,off,hu,hb,hM,cs,pN,hr⟩:=hv
 obtain⟨fs,f,R6,hff,hfo,FB⟩:=(hE.ty t υ ht).iK hf
 obtain⟨v,dG,hvv⟩:=uZ (P:=P) ho (w:=w) R6 hff FB (nb hz) hu
 refine aZ dG (hn _ _ _ _ _ M ν h (.refl hc.mem) ?_)
 simp only[VR]
 exact⟨b,off+f.offset,hvv,hb,hM,_,by rw[hfo];exact pN.sub of υ'.size,hf.rd hr⟩
theorem V.agg{τ:Ty}(ha:τ.isAgg=true){v:Value}{x:τ.den}(h:V w M τ v x): ∃cs,v= .agg cs∧Rd w M τ cs.toList x:=by
 unfold V at h;rw[ak ha]at h;exact h
theorem DP.agg{τ:Ty}{x:τ.den}{n:Nat}{υ:Ty}{y:υ.den}{o:Nat}(h:DP τ x n υ y o):τ.isAgg=true:=by cases h<;>rfl
theorem Yo(hE:EnvTy P E)(hc:Core c σ a.tmps w M ν){t:TypeId}{x:Operand}{n:Nat}(ho:o.op= .field t x n){K:g7 α}{τ:Ty}(ht:E.ty t=some τ){υ:Ty}{z:υ.den}(hx:σ.ρ x= .val υ z)
  (h:ju υ τ (vE υ z n fun υ y=>K (.val υ y) [] [])=some r) (hn:fM c σ a o w M ν K r next):o.wp P a w next Q:=by
 obtain⟨he,h1⟩:=dW h
 subst he
 obtain⟨υ',y,of,hf,h⟩:=qb h1
 have hv:=hc.ev x
 rw[hx]at hv
 simp only[VR]at hv
 obtain⟨cs,hu,hr⟩:=hv.agg hf.agg
 obtain⟨fs,f,R6,hff,hfo,FB⟩:=(hE.ty t υ ht).iK hf
 have dZ:=hf.rd hr
 refine aZ (LC ho R6 hff FB hu (by rw[hfo];exact dZ)) (hn _ _ _ _ _ M ν h (.refl hc.mem) ?_)
 simp only[VR]
 rw[hfo]
 exact V.ck dZ
theorem LG(hE:EnvTy P E)(hc:Core c σ a.tmps w M ν){t:TypeId}{x i:Operand}(ho:o.op= .indexAddr t x i){K:g7 α}{τ:Ty}(ht:E.ty t=some τ)
  (h:hZ τ (σ.ρ x) (σ.ρ i) σ.H K=some r) (hn:fM c σ a o w M ν K r next):o.wp P a w next Q:=by
 unfold hZ at h
 obtain⟨k,n,hi,h2⟩:=oi h
 clear h
 have h:=h2
 clear h2
 have T9:=hc.ev i
 rw[hi]at T9
 have T9:=T9.int
 have hv:=hc.ev x
 have zz:=hE.ty t τ ht
 split at h
 ·
  rename_i e
  obtain⟨e',R6,hle⟩:=zz.slice
  split at h
  ·rename_i υ l hx
   obtain⟨e1,h⟩:=bz h
   subst e1
   obtain⟨kg,h⟩:=cD h
   obtain⟨h0,h1⟩:=vJ kg
   have h1:n<(ℓ l:Int):=h1
   rw[hx]at hv
   simp only[VR]at hv
   have hv:=V.slice.1 hv
   simp only[Rd,fT,fD]at hv
   obtain⟨ad,cap,hu,aks,hr⟩:=hv
   obtain⟨b,off,rfl,hb,hM,cs,pN,kE⟩:=hr n.toNat ω
   refine aZ (mh ho R6 hle hu T9 h0 h1) (hn _ _ _ _ _ M ν h (.refl hc.mem) ?_)
   simp only[VR]
   refine⟨b,_,rfl,hb,hM,cs,pN,?_⟩
   have:Rd w M e cs (γ l n.toNat e.zero):=by rw[lN l n.toNat e.zero ω];exact kE
   exact this
  ·rename_i id hx
   rw[hx]at hv
   simp only[VR]at hv
   obtain⟨_,hu⟩:=hv
   split at h
   ·rename_i e2 l bk
    obtain⟨he_,h_⟩:=dW h
    clear h
    subst he_
    have h:=h_
    clear h_
    obtain⟨kg,h⟩:=cD h
    obtain⟨h0,h1⟩:=vJ kg
    have mi:=hc.mem.ke id _ bk
    simp only[ER]at mi
    rcases mi with⟨rfl,_⟩|⟨b,cs,te,cap,hb,hg,hM,T4,hl,Fy,hs,hr⟩
    ·simp at h1;omega
    ·rw[hb]at hu
     refine aZ (mh ho R6 hle hu T9 h0 h1) (hn _ _ _ _ _ M ν h (.refl hc.mem) ?_)
     simp only[VR]
     refine⟨_,bk,?_⟩
     simp only[AR]
     exact⟨n.toNat,[],rfl,ω,trivial,b,_,_,hb,by simp[cM]⟩
   ·rename_i e2 l bk
    obtain⟨he_,h_⟩:=dW h
    clear h
    subst he_
    have h:=h_
    clear h_
    obtain⟨kg,h⟩:=cD h
    obtain⟨h0,h1⟩:=vJ kg
    have mi:=hc.mem.ke id _ bk
    simp only[ER]at mi
    obtain⟨kE,hhd⟩:=mi
    simp only[Rd,fT,fD]at kE
    obtain⟨ad,cap,hb,aks,hr⟩:=kE
    rcases hhd with⟨rfl,_⟩|⟨b,n2,c2,vx⟩
    ·simp at h1;omega
    ·rw[hb]at vx;cases vx
     rw[hb]at hu
     refine aZ (mh ho R6 hle hu T9 h0 h1) (hn _ _ _ _ _ M ν h (.refl hc.mem) ?_)
     simp only[VR]
     refine⟨_,bk,?_⟩
     simp only[AR]
     exact⟨n.toNat,[],rfl,ω,trivial,b,_,_,hb,by simp[cM]⟩
   ·cases h
  ·cases h
 ·
  rename_i len e
  obtain⟨e',R6,hle⟩:=zz.arr
  split at h
  ·rename_i id p hx
   obtain⟨en,υ,bk,het,h⟩:=GP h
   obtain⟨he_,h_⟩:=dW h
   clear h
   subst he_
   have h:=h_
   clear h_
   obtain⟨kg,h⟩:=cD h
   obtain⟨h0,h1⟩:=vJ kg
   rw[hx]at hv
   simp only[VR]at hv
   obtain⟨en',uF,lR⟩:=hv
   rw[bk]at uF;cases uF
   obtain⟨b,off,hu,akr⟩:=lR.step het (.idx n.toNat) ⟨⟨len,e,rfl,ω⟩,trivial⟩
   refine aZ (tP ho R6 hle hu T9 h0 h1) (hn _ _ _ _ _ M ν h (.refl hc.mem) ?_)
   simp only[VR]
   refine⟨en,bk,?_⟩
   simpa [cM,elT]using akr
  ·rename_i υ l hx
   obtain⟨e1,h⟩:=bz h
   subst e1
   obtain⟨kg,h⟩:=cD h
   obtain⟨h0,h1⟩:=vJ kg
   rw[hx]at hv
   simp only[VR]at hv
   obtain⟨b,off,hu,hb,hM,cs,pN,hr⟩:=hv
   refine aZ (tP ho R6 hle hu T9 h0 h1) (hn _ _ _ _ _ M ν h (.refl hc.mem) ?_)
   simp only[VR]
   exact⟨b,_,rfl,hb,hM,_,pN.sub _ e.size,hr.idx ω⟩
  ·cases h
 ·cases h
theorem ET(hc:Core c σ a.tmps w M ν){x:Operand}(ho:o.op= .nilCheck x){K:g7 α}{id:Nat}{p:List Step}(hx:σ.ρ x= .jH id p)
  (h:K (.jH id p) [] []=some r) (hn:fM c σ a o w M ν K r next):o.wp P a w next Q:=by
 have hv:=hc.ev x
 have R7:=hv
 rw[hx]at hv
 simp only[VR]at hv
 obtain⟨e,he,lR⟩:=hv
 obtain⟨ad,hu⟩:=lR.ptr
 refine aZ (wN ho hu) (hn _ _ _ _ _ M ν h (.refl hc.mem) ?_)
 rw[←hu,←hx];exact R7
theorem CL(hc:Core c σ a.tmps w M ν){x:Operand}(ho:o.op= .nilCheck x){K:g7 α}{τ:Ty}{z:τ.den}(hx:σ.ρ x= .su τ z)
  (h:K (.su τ z) [] []=some r) (hn:fM c σ a o w M ν K r next):o.wp P a w next Q:=by
 have hv:=hc.ev x
 have R7:=hv
 rw[hx]at hv
 simp only[VR]at hv
 obtain⟨b,off,hu,_⟩:=hv
 refine aZ (wN ho hu) (hn _ _ _ _ _ M ν h (.refl hc.mem) ?_)
 rw[←hu,←hx];exact R7
theorem jQ.get{H:Nat→Option br}: ∀{rj:List bE} {vs:List Value},jQ w M H ν rj vs→ ∀{i:Nat} {x:bE},rj[i]? =some x→ ∃v,vs[i]? =some v∧VR w M H ν x v
 |[],_,_,i,x,hx=>by simp at hx
 |y::rj,[],h,_,_,_=>by simp[jQ]at h
 |y::rj,v::vs,h,0,x,hx=>by
  simp only[jQ]at h
  simp at hx;subst hx
  exact⟨v,rfl,h.1⟩
 |y::rj,v::vs,h,i+1,x,hx=>by
  simp only[jQ]at h
  exact jQ.get h.2 (by simpa using hx)
theorem Sl(hc:Core c σ a.tmps w M ν){x:Operand}{i:Nat}(ho:o.op= .extract x i){K:g7 α}{vs:List bE}{v:bE}(hx:σ.ρ x= .tup vs)(hi:vs[i]? =some v)
  (h:K v [] []=some r) (hn:fM c σ a o w M ν K r next):o.wp P a w next Q:=by
 have hv:=hc.ev x
 rw[hx]at hv
 simp only[VR]at hv
 obtain⟨us,hu,hvs⟩:=hv
 obtain⟨u,hui,hvu⟩:=hvs.get hi
 exact aZ (GF ho hu hui) (hn _ _ _ _ _ M ν h (.refl hc.mem) hvu)
theorem Core.evs(hc:Core c σ a.tmps w M ν): ∀xs:List Operand,jQ w M σ.H ν (xs.map σ.ρ) (xs.map a.eval)
 |[]=>by simp[jQ]
 |x::xs=>by simp only[bV,jQ];exact⟨hc.ev x,hc.evs xs⟩
theorem xQ: ∀{rj:List bE} {vs:List Value} {H:Nat→Option br} {M:Nat→Prop} {K:List bE→List Nat→jI→Option α},Mem c H w M ν→jQ w M H ν rj vs→xB H rj K=some r→
  ∃cs rd ups M',K cs rd ups=some r∧Tr c H w M ν (c4 H ups) w M' ν∧jQ w M' (c4 H ups) ν cs vs
 |[],vs,H,M,K,hm,hv,h=>⟨[],[],[],M,h,.refl hm,hv⟩
 |x::xs,[],H,M,K,hm,hv,h=>by simp[jQ]at hv
 |x::xs,v::vs,H,M,K,hm,hv,h=>by
  simp only[jQ]at hv
  unfold xB at h
  split at h
  ·rename_i id
   split at h
   ·rename_i τ z bk
    obtain⟨M1,b,ht,hb,eV,hM,ki,pN,kE⟩:=Tr.fix hm bk
    obtain⟨cs,rd,ups,M2,hK,X0,hv2⟩:=xQ ht.mem (jQ.cg ht.cg ht.goes hv.2) h
    refine⟨_,_,_,M2,hK,ht.trans X0,?_⟩
    have h1:VR w M1 (cq H id (some .gone)) ν (.su τ z) v:=by
     have Sm:=hv.1
     simp only[VR]at Sm ⊢
     obtain⟨e,he,lR⟩:=Sm
     rw[bk]at he;cases he
     simp only[AR]at lR
     obtain⟨_,b',eY,Sm⟩:=lR
     rw[hb]at eY;cases eY
     exact⟨b,0,Sm,eV,hM,ki,pN,kE⟩
    simp only[jQ]
    exact⟨VR.cg X0.cg X0.goes h1,hv2⟩
   ·cases h
  ·obtain⟨cs,rd,ups,M2,hK,X0,hv2⟩:=xQ hm hv.2 h
   refine⟨_,_,_,M2,hK,X0,?_⟩
   simp only[jQ]
   exact⟨VR.cg X0.cg X0.goes hv.1,hv2⟩
theorem Of(hc:Core c σ a.tmps w M ν){f:FuncId}{first caps:Array Operand}(ho:o.op= .makeFunc (.func f) first caps){K:g7 α}
  (h:cond first.isEmpty (xB σ.H (caps.toList.map σ.ρ) λcs rd ups=>K (.NZ f cs) rd ups) none=some r) (hn:fM c σ a o w M ν K r next):o.wp P a w next Q:=by
 obtain⟨hf,h⟩:=cD h
 obtain⟨cs,rd,ups,M',hK,ht,hv⟩:=xQ hc.mem (hc.evs _) h
 refine aZ (EP ho (by simpa using hf)) (hn _ _ _ _ _ M' ν hK ht ?_)
 simp only[VR]
 exact⟨caps.toList.map a.eval,by congr 1;apply g8;simp,hv⟩
theorem Sn(hE:EnvTy P E)(hc:Core c σ a.tmps w M ν){s d:TypeId}{x:Operand}(ho:o.op= .convert s d x){K:g7 α}{τ:Ty}{k:IntKind}(hs:E.ty s=some τ)(hd:E.ty d=some (.int k))
  (h:w1 (σ.ρ x) (λ_ n=>K (.val (.int k) (W k n)) [] [])=some r) (hn:fM c σ a o w M ν K r next):o.wp P a w next Q:=by
 obtain⟨k',n,hx,h⟩:=oi h
 have hv:=hc.ev x
 rw[hx]at hv
 refine aZ (GG ho (hE.ty s τ hs).isSome (hE.ty d _ hd).int hv.int) (hn _ _ _ _ _ M ν h (.refl hc.mem) ?_)
 rw[Gt];exact .mkInt k _
end VM
end
