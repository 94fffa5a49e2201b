/- A part of the proof of BookAtOnce of layer 18: a machine that reads a function of the program as an equation between values. -/
import Derived.Test.YthkjjlcblhbifaaGreatVm0
import Derived.WalkLawsBesides
set_option linter.all false
open List renaming getD→γ
section
namespace VM
open Go
def Lt(P:Program)(τ:Ty)(t:TypeId):Prop:=
 ∃i,P.info? t=some i∧i.size=τ.size∧i.zero=some (cg τ τ.cD)∧i.bytes≤2048
def gA(P:Program):Ty→TypeId ⊕ (Array Field×Nat×Nat)→Prop
 | .int k,.inl t=>Lt P (.int k) t∧P.underlying t=some (.int k)
 | .bool,.inl t=>Lt P .bool t∧P.underlying t=some .bool
 | .str,.inl t=>Lt P .str t∧P.underlying t=some .string
 | .slice e,.inl t=>Lt P (.slice e) t∧ ∃e',P.underlying t=some (.slice e')∧gA P e (.inl e')
 | .arr n e,.inl t=>Lt P (.arr n e) t∧ ∃e',P.underlying t=some (.array n e')∧gA P e (.inl e')
 | .unit,.inl t=>Lt P .unit t∧ ∃fs,P.underlying t=some (.struct fs)∧fs.size=0
 | .unit,.inr (fs,n,_)=>fs.size=n
 | .pair a b,.inl t=>Lt P (.pair a b) t∧ ∃fs f,P.underlying t=some (.struct fs)∧fs[0]? =some f∧f.offset=0∧gA P a (.inl f.type)∧gA P b (.inr (fs,1,a.size))
 | .pair a b,.inr (fs,n,off)=> ∃f,fs[n]? =some f∧f.offset=off∧gA P a (.inl f.type)∧gA P b (.inr (fs,n+1,off+a.size))
 |_,.inr _=>False
def kX(P:Program)(τ:Ty)(t:TypeId):Prop:=gA P τ (.inl t)
theorem kX.base{P:Program}{τ:Ty}{t:TypeId}(h:kX P τ t):Lt P τ t:=by
 unfold kX at h;cases τ<;>simp only[gA]at h<;>exact h.1
theorem kX.int{P:Program}{k:IntKind}{t:TypeId}(h:kX P (.int k) t):P.underlying t=some (.int k):=by simp only[kX,gA]at h;exact h.2
theorem kX.bool{P:Program}{t:TypeId}(h:kX P .bool t):P.underlying t=some .bool:=by simp only[kX,gA]at h;exact h.2
theorem kX.str{P:Program}{t:TypeId}(h:kX P .str t):P.underlying t=some .string:=by simp only[kX,gA]at h;exact h.2
theorem kX.slice{P:Program}{e:Ty}{t:TypeId}(h:kX P (.slice e) t): ∃e',P.underlying t=some (.slice e')∧kX P e e':=by simp only[kX,gA]at h;exact h.2
theorem kX.arr{P:Program}{n:Nat}{e:Ty}{t:TypeId}(h:kX P (.arr n e) t): ∃e',P.underlying t=some (.array n e')∧kX P e e':=by simp only[kX,gA]at h;exact h.2
theorem kX.isSome{P:Program}{τ:Ty}{t:TypeId}(h:kX P τ t):(P.underlying t).isSome=true:=by
 unfold kX at h
 cases τ<;>simp only[gA]at h
 ·simp[h.2]
 ·simp[h.2]
 ·simp[h.2]
 ·obtain⟨_,e',h',_⟩:=h;simp[h']
 ·obtain⟨_,e',h',_⟩:=h;simp[h']
 ·obtain⟨_,e',f,h',_⟩:=h;simp[h']
 ·obtain⟨_,e',h',_⟩:=h;simp[h']
inductive DC:(τ:Ty)→τ.den→Nat→(υ:Ty)→υ.den→Nat→Prop where
 |here {a b:Ty} (x:(Ty.pair a b).den):DC (.pair a b) x 0 a x.1 0
 |there {a b:Ty} (x:(Ty.pair a b).den) {n:Nat} {υ:Ty} {y:υ.den} {o:Nat} (h:DC b x.2 n υ y o):DC (.pair a b) x (n+1) υ y (a.size+o)
theorem pM{α:Type}{r:α}: ∀{τ:Ty} {x:τ.den} {n:Nat} {k:(υ:Ty)→υ.den→Option α},u9 τ x n k=some r→ ∃υ y o,DC τ x n υ y o∧k υ y=some r
 | .pair a b,x,0,k,h=>⟨a,x.1,0,.here x,h⟩
 | .pair a b,x,n+1,k,h=>by
  obtain⟨υ,y,o,hf,hk⟩:=pM (τ:=b) (x:=x.2) (n:=n) (k:=k) h
  exact⟨υ,y,_,.there x hf,hk⟩
 | .int _,_,_,_,h| .bool,_,_,_,h| .str,_,_,_,h| .slice _,_,_,_,h| .unit,_,_,_,h| .arr _ _,_,_,_,h=>by simp[u9]at h
theorem DC.bound{τ:Ty}{x:τ.den}{n:Nat}{υ:Ty}{y:υ.den}{o:Nat}(h:DC τ x n υ y o):o+υ.size≤τ.size:=by
 induction h with
 |here x=>simp[Ty.size]
 |there x h ih=>simp only[Ty.size];omega
theorem DC.rd{w:World}{M:Nat→Prop}{τ:Ty}{x:τ.den}{n:Nat}{υ:Ty}{y:υ.den}{o:Nat}(h:DC τ x n υ y o):
  ∀{cs:List Value},Rd w M τ cs x→Rd w M υ ((cs.drop o).take υ.size) y:=by
 induction h with
 |here x=>
  intro cs hr
  simp only[Rd]at hr
  obtain⟨c1,c2,rfl,h1,_⟩:=hr
  rw[cV,wX h1.length];exact h1
 |there x h ih=>
  intro cs hr
  simp only[Rd]at hr
  obtain⟨c1,c2,rfl,h1,h2⟩:=hr
  rw[←iC,mz h1.length]
  exact ih h2
theorem gA.gG{P:Program}{τ:Ty}{x:τ.den}{m:Nat}{υ:Ty}{y:υ.den}{o:Nat}(h:DC τ x m υ y o):
  ∀{fs:Array Field} {n off:Nat},gA P τ (.inr (fs,n,off))→ ∃f,fs[n+m]? =some f∧f.offset=off+o∧kX P υ f.type:=by
 induction h with
 |here x=>
  intro fs n off hl
  simp only[gA]at hl
  obtain⟨f,hf,ho,ha,_⟩:=hl
  exact⟨f,hf,by simpa using ho,ha⟩
 |there x h ih=>
  intro fs n off hl
  simp only[gA]at hl
  obtain⟨f,hf,ho,_,hb⟩:=hl
  obtain⟨f',zx,ho',I1⟩:=ih hb
  exact⟨f',by rw[←zx];congr 1;omega,ω,I1⟩
theorem kX.gG{P:Program}{τ:Ty}{t:TypeId}{x:τ.den}{m:Nat}{υ:Ty}{y:υ.den}{o:Nat}(hl:kX P τ t)(h:DC τ x m υ y o):
  ∃fs f,P.underlying t=some (.struct fs)∧fs[m]? =some f∧f.offset=o∧kX P υ f.type:=by
 unfold kX at hl
 cases h with
 |here x=>
  simp only[gA]at hl
  obtain⟨_,fs,f,hu,hf,ho,ha,_⟩:=hl
  exact⟨fs,f,hu,hf,ho,ha⟩
 |there x h=>
  simp only[gA]at hl
  obtain⟨_,fs,f,hu,hf,ho,_,hb⟩:=hl
  obtain⟨f',zx,ho',I1⟩:=gA.gG h hb
  exact⟨fs,f',hu,by rw[←zx];congr 1;omega,ω,I1⟩
inductive Lu:List Step→(τ:Ty)→τ.den→(υ:Ty)→υ.den→Nat→Prop where
 |nil {τ:Ty} (x:τ.den):Lu [] τ x τ x 0
 |gG {p:List Step} {τ υ σ:Ty} {x:τ.den} {n o:Nat} {y:υ.den} {z:σ.den} {q:Nat} (h:DC τ x n υ y o) (r:Lu p υ y σ z q):Lu (.gG n::p) τ x σ z (o+q)
 |idx {p:List Step} {n:Nat} {e σ:Ty} {x:(Ty.arr n e).den} {i:Nat} {z:σ.den} {q:Nat} (r:Lu p e (γ x i e.zero) σ z q):Lu (.idx i::p) (.arr n e) x σ z (i*e.size+q)
theorem kY{α:Type}{r:α}: ∀{p:List Step} {τ:Ty} {x:τ.den} {k:(υ:Ty)→υ.den→Option α},AO p τ x k=some r→ ∃υ y o,Lu p τ x υ y o∧k υ y=some r
 |[],τ,x,k,h=>⟨τ,x,0,.nil x,h⟩
 | .gG n::p,τ,x,k,h=>by
  obtain⟨υ,y,o,hf,h'⟩:=pM (h:u9 τ x n _=some r)
  obtain⟨σ,z,q,hp,hk⟩:=kY h'
  exact⟨σ,z,_,.gG hf hp,hk⟩
 | .idx i::p,τ,x,k,h=>by
  cases τ with
  |arr n e=>
   obtain⟨σ,z,q,hp,hk⟩:=kY (p:=p) (τ:=e) (x:=γ x i e.zero) (k:=k) h
   exact⟨σ,z,_,.idx hp,hk⟩
  |_=>simp[AO,ajF]at h
def sV:Ty→Nat→Ty
 | .pair a b,n=>match n with|0=>a|n+1=>sV b n
 |τ,_=>τ
def gq:Ty→Nat→Nat
 | .pair a b,n=>match n with|0=>0|n+1=>a.size+gq b n
 |_,_=>0
def elT:Ty→Ty
 | .arr _ e=>e
 |τ=>τ
def Jk:List Step→Ty→Ty
 |[],τ=>τ
 | .gG n::p,τ=>Jk p (sV τ n)
 | .idx _::p,τ=>Jk p (elT τ)
def cy:List Step→Ty→Nat
 |[],_=>0
 | .gG n::p,τ=>gq τ n+cy p (sV τ n)
 | .idx i::p,τ=>i*(elT τ).size+cy p (elT τ)
def y4:List Step→Ty→Prop
 |[],_=>True
 | .gG n::p,τ=>y4 p (sV τ n)
 | .idx i::p,τ=>(∃n e,τ= .arr n e∧i<n)∧y4 p (elT τ)
theorem DC.eq{τ:Ty}{x:τ.den}{n:Nat}{υ:Ty}{y:υ.den}{o:Nat}(h:DC τ x n υ y o):υ=sV τ n∧o=gq τ n:=by
 induction h with
 |here x=>exact⟨rfl,rfl⟩
 |there x h ih=>obtain⟨rfl,rfl⟩:=ih;exact⟨rfl,rfl⟩
theorem Lu.eq{p:List Step}{τ:Ty}{x:τ.den}{υ:Ty}{y:υ.den}{o:Nat}(h:Lu p τ x υ y o):υ=Jk p τ∧o=cy p τ:=by
 induction h with
 |nil x=>exact⟨rfl,rfl⟩
 |gG h r ih=>
  obtain⟨h1,h2⟩:=h.eq
  obtain⟨h3,h4⟩:=ih
  subst h1 h2 h3 h4
  exact⟨rfl,rfl⟩
 |idx r ih=>
  obtain⟨h3,h4⟩:=ih
  subst h3 h4
  exact⟨rfl,rfl⟩
theorem ajJ(p q:List Step): ∀τ,Jk (p++q) τ=Jk q (Jk p τ):=by
 induction p with
 |nil=>intro τ;rfl
 |cons s p ih=>intro τ;cases s<;>simp[Jk,ih]
theorem th(p q:List Step): ∀τ,cy (p++q) τ=cy p τ+cy q (Jk p τ):=by
 induction p with
 |nil=>intro τ;simp[cy,Jk]
 |cons s p ih=>intro τ;cases s<;>simp[cy,Jk,ih,pI]
theorem ti(p q:List Step): ∀τ,y4 (p++q) τ↔y4 p τ∧y4 q (Jk p τ):=by
 induction p with
 |nil=>intro τ;simp[y4,Jk]
 |cons s p ih=>intro τ;cases s<;>simp[y4,Jk,ih,and_assoc]
theorem lN{α:Type}(l:List α)(i:Nat)(d:α)(h:i<l.length):l.getD i d=l[i]:=by simp[γ,bm h]
theorem AQ{α:Type}(n:Nat): ∀(l:List (List α)) (i:Nat) (h:i<l.length),(∀j (hj:j<l.length),l[j].length=n)→(l.flatten.drop (i*n)).take n=l[i]
 |a::l,0,_,hn=>by
  have:=hn 0 (by simp)
  simp only[FU]at this
  simp[←this]
 |a::l,i+1,h,hn=>by
  have h0:=hn 0 (by simp)
  simp only[FU]at h0
  rw[Ax,eD,kT,Nat.add_comm (i*n) n,←iC,mz h0]
  exact AQ n l i (by simpa using h) (λj hj=>hn (j+1) (by simp;omega))
theorem Rd.idx{w:World}{M:Nat→Prop}{n:Nat}{e:Ty}{cs:List Value}{x:(Ty.arr n e).den}(h:Rd w M (.arr n e) cs x){i:Nat}(hi:i<n):
  Rd w M e ((cs.drop (i*e.size)).take e.size) (γ x i e.zero):=by
 simp only[Rd]at h
 obtain⟨hn,U2,hc,rfl,hr⟩:=h
 rw[AQ e.size U2 i ω (λj hj=>(hr j ω hj).length),lN x i e.zero ω]
 exact hr i ω ω
theorem Lu.bound{p:List Step}{τ:Ty}{x:τ.den}{υ:Ty}{y:υ.den}{o:Nat}(h:Lu p τ x υ y o):y4 p τ→o+υ.size≤τ.size:=by
 induction h with
 |nil x=>intro _;simp
 |gG h r ih=>
  intro hi
  obtain⟨h1,h2⟩:=h.eq
  subst h1
  have:=ih hi
  have:=h.bound
  omega
 | @idx p n e σ x i z q r ih=>
  intro hi
  obtain⟨⟨n',e',he,kC⟩,nV⟩:=hi
  cases he
  have:=ih nV
  have h2:(i+1)*e.size≤n*e.size:=kv _ kC
  rw[eD]at h2
  simp only[Ty.size]
  omega
theorem Lu.rd{w:World}{M:Nat→Prop}{p:List Step}{τ:Ty}{x:τ.den}{υ:Ty}{y:υ.den}{o:Nat}(h:Lu p τ x υ y o):
  y4 p τ→ ∀{cs:List Value},Rd w M τ cs x→Rd w M υ ((cs.drop o).take υ.size) y:=by
 induction h with
 |nil x=>intro _ cs hr;rw[cV,iz (by rw[hr.length];exact aH _)];exact hr
 |gG h r ih=>
  intro hi cs hr
  obtain⟨h1,h2⟩:=h.eq
  subst h1
  have:=ih hi (h.rd hr)
  have hb:=Lu.bound r hi
  rw[rH,iC,rI,ij ω]at this
  exact this
 | @idx p n e σ x i z q r ih=>
  intro hi cs hr
  obtain⟨⟨n',e',he,kC⟩,nV⟩:=hi
  cases he
  have:=ih nV (hr.idx kC)
  have hb:=Lu.bound r nV
  rw[rH,iC,rI,ij ω]at this
  exact this
def eN{α:Type}(cs:List α)(o:Nat)(new:List α):List α:=cs.take o++new++cs.drop (o+new.length)
theorem AS{α:Type}{a b:List α}{o:Nat}{new:List α}(h:o+new.length≤a.length):eN (a++b) o new=eN a o new++b:=by
 unfold eN
 rw[yl ω,ym ω]
 simp only[bE]
theorem yr{α:Type}{a b:List α}{o:Nat}{new:List α}:eN (a++b) (a.length+o) new=a++eN b o new:=by
 unfold eN
 rw[List.take_append,iz ω,Ao,pI,List.drop_append,jf ω,Ao]
 simp
theorem eH{α:Type}{a:List α}{o:Nat}{new:List α}(h:o+new.length≤a.length):(eN a o new).length=a.length:=by
 unfold eN;simp;omega
theorem Fk{α:Type}{a:List α}{o i n:Nat}{new:List α}(h:i+n≤o∨o+new.length≤i)(hl:o+new.length≤a.length):((eN a o new).drop i).take n=(a.drop i).take n:=by
 apply Ay
 intro j
 simp only[mR,mS]
 split
 ·rename_i hj
  unfold eN
  rcases h with h|h
  ·rw[bE,tc (by simp;omega),mR,aj ω]
  ·rw[pj (by simp;omega)]
   simp only[aS,bV,ij (show o≤a.length by omega),mS]
   congr 1;omega
 ·rfl
theorem ajK{α:Type}{a:List α}{o:Nat}{new:List α}(hl:o+new.length≤a.length):((eN a o new).drop o).take new.length=new:=by
 unfold eN
 rw[bE,mz (by simp;omega),wX rfl]
theorem xd{α:Type}{l:List α}{o:Nat}{u:α}(h:l[o]? =some u):eN l o [u]=l:=by
 obtain⟨eT,rfl⟩:=u2.1 h
 unfold eN
 simp
theorem yt{α:Type}{l:List α}{o:Nat}{u:α}(h:o<l.length):(eN l o [u])[o]? =some u:=by
 unfold eN
 rw[bE,pj (by simp;omega)]
 simp[ij (Nat.le_of_lt h)]
theorem kZ{τ:Ty}: ∀{n:Nat} {a:Ty},yW τ n=some a→ ∀x:τ.den,∃y o,DC τ x n a y o:=by
 induction τ with
 |pair a b _ XC=>
  intro n c h x
  cases n with
  |zero=>cases h;exact⟨_,_,.here x⟩
  |succ n=>
   obtain⟨y,o,hf⟩:=XC (n:=n) (a:=c) h x.2
   exact⟨y,_,.there x hf⟩
 |_=>intro n c h;simp[yW]at h
theorem uy: ∀{p:List Step} {τ υ:Ty},fy p τ υ=true→ ∀x:τ.den,∃y o,Lu p τ x υ y o
 |[],τ,υ,h,x=>by
  have h:=bt h
  subst h
  exact⟨x,0,.nil x⟩
 | .gG n::p,τ,υ,h,x=>by
  unfold fy at h
  split at h
  ·rename_i a ha
   obtain⟨y,o,hf⟩:=kZ ha x
   obtain⟨z,q,hp⟩:=uy h y
   exact⟨z,_,.gG hf hp⟩
  ·cases h
 | .idx _::_,_,_,h,_=>by simp[fy]at h
theorem lO: ∀{p:List Step} {τ υ:Ty},fy p τ υ=true→y4 p τ∧Jk p τ=υ
 |[],τ,υ,h=>⟨trivial,bt h⟩
 | .gG n::p,τ,υ,h=>by
  have h0:=h
  unfold fy at h
  split at h
  ·rename_i a ha
   obtain⟨y,o,hf⟩:=kZ ha τ.zero
   obtain⟨h1,h2⟩:=lO h
   have:=hf.eq.1
   subst this
   exact⟨h1,h2⟩
  ·cases h
 | .idx _::_,_,_,h=>by simp[fy]at h
theorem zy: ∀{p q:List Step},Jg p q=true→p=q
 |[],[],_=>rfl
 | .gG a::p,.gG b::q,h=>by
  simp only[Jg,bM]at h
  rw[fF h.1,zy h.2]
 |[],_::_,h| .gG _::_,[],h| .idx _::_,_,h| .gG _::_,.idx _::_,h=>by simp[Jg]at h
theorem DC.apart{τ:Ty}{x:τ.den}{n:Nat}{υ:Ty}{y:υ.den}{o:Nat}(h:DC τ x n υ y o): ∀{x':τ.den} {n':Nat} {υ':Ty} {y':υ'.den} {o':Nat},DC τ x' n' υ' y' o'→n≠n'→o+υ.size≤o'∨o'+υ'.size≤o:=by
 induction h with
 |here x=>
  intro x' n' υ' y' o' h' ko
  cases h' with
  |here=>exact absurd rfl ko
  |there _ h'=>left;omega
 |there x h ih=>
  intro x' n' υ' y' o' h' ko
  cases h' with
  |here=>right;omega
  |there _ h'=>rcases ih h' (λe=>ko (by rw[e]))with h1|h1<;>omega
theorem Lu.apart{p:List Step}{τ:Ty}{x:τ.den}{υ:Ty}{y:υ.den}{o:Nat}(h:Lu p τ x υ y o):y4 p τ→ ∀{q:List Step} {e:Ty},fy q τ (.slice e)=true→yV p q=false→cy q τ<o∨o+υ.size≤cy q τ:=by
 induction h with
 |nil x=>intro _ q e _ h;simp[yV]at h
 | @gG p τ υ σ x n o y z q hf r ih=>
  intro hi q' e hq hp
  obtain⟨h1,h2⟩:=hf.eq
  subst h1 h2
  cases q' with
  |nil=>
   have:=bt hq
   subst this
   cases hf
  |cons s q'=>
   cases s with
   |idx i=>simp[fy]at hq
   |gG m=>
    unfold fy at hq
    split at hq
    ·rename_i a ha
     obtain⟨y',o',zx⟩:=kZ ha x
     obtain⟨h3,h4⟩:=zx.eq
     subst h3 h4
     have hb:=r.bound hi
     obtain⟨h5,h6⟩:=lO hq
     obtain⟨z',o2,Rx⟩:=uy hq y'
     have fa:=Rx.bound h5
     have ho2:=Rx.eq.2
     subst ho2
     simp only[cy]
     by_cases hnm:n=m
     ·subst hnm
      have I2:yV p q'=false:=by
       simp only[yV,Bool.and_eq_false_iff]at hp
       rcases hp with hp|hp
       ·rw[pJ]at hp;cases hp
       ·exact hp
      rcases ih hi hq I2 with h7|h7<;>omega
     ·rcases hf.apart zx hnm with h7|h7
      ·right;omega
      ·left
       have:1≤(Ty.slice e).size:=aH _
       omega
    ·cases hq
 | @idx p n e' σ x i z q r ih=>
  intro hi q' e hq hp
  cases q' with
  |nil=>have:=bt hq;cases this
  |cons s q'=>
   cases s with
   |idx i=>simp[fy]at hq
   |gG m=>simp[fy,yW]at hq
def fC:Value→Option Nat
 | .pointer (some a)=>some a.block
 | .slice (some a) _ cap=>if cap=0 then none else some a.block
 |_=>none
def bp.mut:bp→Prop
 | .obj _ _| .own _ _| .gg _ _ _ _=>True
 |_=>False
def ER(w:World)(M:Nat→Prop)(v:Value):bp→Prop
 | .obj τ x=> ∃b cs t,v= .pointer (some ⟨b,0,none⟩)∧w.heap[b]? =some (.cells cs t (0,0))∧M b∧Rd w M τ cs.toList x
 | .gg τ x p _=> ∃b cs t ka u,v= .pointer (some ⟨b,0,none⟩)∧w.heap[b]? =some (.cells cs t (0,0))∧M b∧Rd w M τ ka x∧cs.toList=eN ka (cy p τ) [u]∧u.oneCell'=true∧ ∃e,fy p τ (.slice e)=true
 | .own e l=>(l=[]∧ ∃a,v= .slice a 0 0)∨
  ∃b cs t cap,v= .slice (some ⟨b,0,none⟩) l.length cap∧w.heap[b]? =some (.cells cs t (0,0))∧M b∧0<cap∧l.length≤cap∧cap≤maxLen∧cs.size=cap*e.size∧
   ∀i (h:i<l.length),Rd w M e ((cs.toList.drop (i*e.size)).take e.size) l[i]
 | .pq e l=>Rd w M (.slice e) [v] l∧((l=[]∧ ∃a n c,v= .slice a n c)∨ ∃b n c,v= .slice (some ⟨b,0,none⟩) n c)
 | .gone=>True
def AR(v:Value)(p:List Step)(u:Value):bp→Prop
 | .obj τ _| .gg τ _ _ _=>y4 p τ∧ ∃b,v= .pointer (some ⟨b,0,none⟩)∧u= .pointer (some ⟨b,cy p τ,none⟩)
 | .own e l| .pq e l=> ∃i q,p= .idx i::q∧i<l.length∧y4 q e∧ ∃b n c,v= .slice (some ⟨b,0,none⟩) n c∧u= .pointer (some ⟨b,i*e.size+cy q e,none⟩)
 | .gone=> ∃a,u= .pointer (some a)
def ve(τ:Ty)(n:Nat):Bool:=match yW τ n with
 |some (.slice _)=>true
 |_=>false
mutual
def VR(w:World)(M:Nat→Prop)(H:Nat→Option bp)(ν:Nat→Value):bA→Value→Prop
 | .any,_=>True
 | .XA,v=>v=undef
 | .val τ x,v=>V w M τ v x
 | .Lq τ x n,v=>V w M τ v x∧ ∃cs a,v= .agg cs∧cs.toList[gq τ n]? =some (.slice a 0 0)
 | .sub id e lo,v=>H id≠none∧ ∃a n cap,ν id= .slice a n cap∧v= .slice (if cap=lo then a else a.map (·.add (lo*e.size))) (n-lo) (cap-lo)
 | .Jh τ x n j,v=> ∃cs ka,v= .agg cs∧Rd w M τ ka x∧cs.toList=eN ka (gq τ n) [ν j]∧H j≠none∧ve τ n=true
 | .emp,v=> ∃a,v= .slice a 0 0
 | .ref id,v=>H id≠none∧v=ν id
 | .jd id p,v=> ∃e,H id=some e∧AR (ν id) p v e
 | .rR τ x,v=> ∃b off,v= .pointer (some ⟨b,off,none⟩)∧b<w.heap.size∧ ¬M b∧ ∃cs,At w b off cs∧Rd w M τ cs x
 | .tup vs,v=> ∃us:List Value,v= .tuple us.toArray∧jN w M H ν vs us
 | .NL f caps,v=> ∃cs:List Value,v= .func (.func f) #[] cs.toArray∧jN w M H ν caps cs
def jN(w:World)(M:Nat→Prop)(H:Nat→Option bp)(ν:Nat→Value):List bA→List Value→Prop
 |[],[]=>True
 |a::as,v::vs=>VR w M H ν a v∧jN w M H ν as vs
 |_,_=>False
end
def bp.lP:bp→bp→Prop
 | .obj τ _,.obj υ _| .obj τ _,.gg υ _ _ _| .gg τ _ _ _,.obj υ _| .gg τ _ _ _,.gg υ _ _ _=>τ=υ
 | .own e l,.own f k| .own e l,.pq f k| .pq e l,.pq f k=>e=f∧l.length=k.length
 |_,.gone=>True
 |_,_=>False
structure tS(H:Nat→Option bp)(ν:Nat→Value)(H':Nat→Option bp)(ν':Nat→Value):Prop where
 jO: ∀i e,H i=some e→ ∃e',H' i=some e'∧e.lP e'
 head: ∀i,H i≠none→ν' i=ν i
theorem AR.ptr{v:Value}{p:List Step}{u:Value}{e:bp}(h:AR v p u e): ∃a,u= .pointer (some a):=by
 cases e<;>simp only[AR]at h
 ·obtain⟨_,b,_,h⟩:=h;exact⟨_,h⟩
 ·obtain⟨_,b,_,h⟩:=h;exact⟨_,h⟩
 ·obtain⟨i,q,_,_,_,b,n,c,_,h⟩:=h;exact⟨_,h⟩
 ·obtain⟨i,q,_,_,_,b,n,c,_,h⟩:=h;exact⟨_,h⟩
 ·exact h
theorem AR.lP{v:Value}{p:List Step}{u:Value}{e e':bp}(h:AR v p u e)(l:e.lP e'):AR v p u e':=by
 have hp:=h.ptr
 cases e<;>cases e'<;>simp only[bp.lP]at l<;>simp only[AR]at h ⊢ <;>try exact hp
 ·subst l;exact h
 ·subst l;exact h
 ·subst l;exact h
 ·subst l;exact h
 ·obtain⟨rfl,hl⟩:=l;obtain⟨i,q,hp,hi,r⟩:=h;exact⟨i,q,hp,ω,r⟩
 ·obtain⟨rfl,hl⟩:=l;obtain⟨i,q,hp,hi,r⟩:=h;exact⟨i,q,hp,ω,r⟩
 ·obtain⟨rfl,hl⟩:=l;obtain⟨i,q,hp,hi,r⟩:=h;exact⟨i,q,hp,ω,r⟩
theorem bp.lP.refl(e:bp):e.lP e:=by cases e<;>simp[bp.lP]
theorem tS.refl(H:Nat→Option bp)(ν:Nat→Value):tS H ν H ν:=⟨λ_ e h=>⟨e,h,.refl e⟩,λ_ _=>rfl⟩
mutual
theorem VR.bZ{w w':World}{M M':Nat→Prop}{H H':Nat→Option bp}{ν ν':Nat→Value}(k:fO w M w' M')(g:tS H ν H' ν'):
  ∀{a:bA} {v:Value},VR w M H ν a v→VR w' M' H' ν' a v
 | .any,_,_=>by simp[VR]
 | .XA,_,h=>by simpa [VR]using h
 | .val τ x,v,h=>by simp only[VR]at h ⊢;exact h.bZ k
 | .Lq τ x n,v,h=>by simp only[VR]at h ⊢;exact⟨h.1.bZ k,h.2⟩
 | .sub id e lo,v,h=>by
  simp only[VR]at h ⊢
  obtain⟨h1,h2⟩:=h
  obtain⟨e,he⟩:=wP.1 h1
  obtain⟨e',ub,_⟩:=g.jO id e he
  exact⟨by simp[ub],by rw[g.head id h1];exact h2⟩
 | .Jh τ x n j,v,h=>by
  simp only[VR]at h ⊢
  obtain⟨cs,ka,h1,h2,h3,h4,h5⟩:=h
  obtain⟨e,he⟩:=wP.1 h4
  obtain⟨e',ub,_⟩:=g.jO j e he
  exact⟨cs,ka,h1,h2.bZ k,by rw[g.head j h4];exact h3,by simp[ub],h5⟩
 | .emp,_,h=>by simpa [VR]using h
 | .ref id,_,h=>by
  simp only[VR]at h ⊢
  obtain⟨h1,h2⟩:=h
  obtain⟨e,he⟩:=wP.1 h1
  obtain⟨e',ub,_⟩:=g.jO id e he
  exact⟨by simp[ub],by rw[g.head id h1];exact h2⟩
 | .jd id p,_,h=>by
  simp only[VR]at h ⊢
  obtain⟨e,he,ha⟩:=h
  obtain⟨e',ub,hl⟩:=g.jO id e he
  exact⟨e',ub,by rw[g.head id (by simp[he])];exact ha.lP hl⟩
 | .rR τ x,_,h=>by
  simp only[VR]at h ⊢
  obtain⟨b,off,rfl,hb,hm,cs,ha,hr⟩:=h
  exact⟨b,off,rfl,nM hb k.size,λh'=>hm (k.less b hb h'),cs,ha.bZ (k.block b hb hm),hr.bZ k⟩
 | .tup vs,_,h=>by
  simp only[VR]at h ⊢
  obtain⟨us,rfl,h⟩:=h
  exact⟨us,rfl,jN.bZ k g h⟩
 | .NL f caps,_,h=>by
  simp only[VR]at h ⊢
  obtain⟨us,rfl,h⟩:=h
  exact⟨us,rfl,jN.bZ k g h⟩
theorem jN.bZ{w w':World}{M M':Nat→Prop}{H H':Nat→Option bp}{ν ν':Nat→Value}(k:fO w M w' M')(g:tS H ν H' ν'):
  ∀{as:List bA} {vs:List Value},jN w M H ν as vs→jN w' M' H' ν' as vs
 |[],[],_=>by simp[jN]
 |a::as,v::vs,h=>by simp only[jN]at h ⊢;exact⟨VR.bZ k g h.1,jN.bZ k g h.2⟩
 |[],_::_,h=>by simp[jN]at h
 |_::_,[],h=>by simp[jN]at h
end
end VM
end
section
namespace VM
open Go
structure Ctx where
 B:Nat
 w0:World
 M0:Nat→Prop
 may:Nat→Prop
 arg:Nat→Value
structure Mem(c:Ctx)(H:Nat→Option bp)(w:World)(M:Nat→Prop)(ν:Nat→Value):Prop where
 jO: ∀i e,H i=some e→ER w M (ν i) e
 AT: ∀i j e e' b,i≠j→H i=some e→e.mut→H j=some e'→e'.mut→fC (ν i)=some b→fC (ν j)≠some b
 new: ∀i e b,H i=some e→e.mut→fC (ν i)=some b→c.B≤b∨c.may b
 qf: ∀i e l b,H i=some (.own e l)→fC (ν i)=some b→ ¬c.M0 b
 gg: ∀i τ x p j,H i=some (.gg τ x p j)→H j≠none∧ ∃b,ν i= .pointer (some ⟨b,0,none⟩)∧w.cell? ⟨b,cy p τ,none⟩=some (ν j)
 sub: ∀b,c.M0 b→M b
 Gn: ∀b,M b→b<w.heap.size
 frame: ∀b,b<c.B→ ¬c.may b→w.heap[b]? =c.w0.heap[b]?
 size:c.B≤w.heap.size
 wB:(∀b,c.M0 b→b<c.B)∧ ∀b,c.may b→ ¬c.M0 b
 os:w.os=c.w0.os
 tape:w.tape=c.w0.tape
 output:w.output=c.w0.output
structure Tr(c:Ctx)(H:Nat→Option bp)(w:World)(M:Nat→Prop)(ν:Nat→Value)(H':Nat→Option bp)(w':World)(M':Nat→Prop)(ν':Nat→Value):Prop where
 mem:Mem c H' w' M' ν'
 bZ:fO w M w' M'
 goes:tS H ν H' ν'
theorem bp.lP.trans{a b d:bp}(h:a.lP b)(k:b.lP d):a.lP d:=by
 cases a<;>cases b<;>cases d<;>simp only[bp.lP]at h k ⊢ <;>first
  |exact h.trans k
  |exact⟨h.1.trans k.1,h.2.trans k.2⟩
theorem tS.trans{H H' H'':Nat→Option bp}{ν ν' ν'':Nat→Value}(h:tS H ν H' ν')(k:tS H' ν' H'' ν''):tS H ν H'' ν'':=by
 refine⟨λi e he=> ?_,λi hi=> ?_⟩
 ·obtain⟨e',ub,l⟩:=h.jO i e he
  obtain⟨e'',auS,l'⟩:=k.jO i e' ub
  exact⟨e'',auS,l.trans l'⟩
 ·obtain⟨e,he⟩:=wP.1 hi
  obtain⟨e',ub,_⟩:=h.jO i e he
  rw[k.head i (by simp[ub]),h.head i hi]
theorem Tr.trans{c:Ctx}{H H' H'':Nat→Option bp}{w w' w'':World}{M M' J4:Nat→Prop}{ν ν' ν'':Nat→Value}
  (h:Tr c H w M ν H' w' M' ν') (k:Tr c H' w' M' ν' H'' w'' J4 ν''):Tr c H w M ν H'' w'' J4 ν'':=
 ⟨k.mem,h.bZ.trans k.bZ,h.goes.trans k.goes⟩
theorem Tr.refl{c:Ctx}{H:Nat→Option bp}{w:World}{M:Nat→Prop}{ν:Nat→Value}(h:Mem c H w M ν):Tr c H w M ν H w M ν:=
 ⟨h,.refl w M,.refl H ν⟩
theorem ay(H:Nat→Option bp)(d:Nat)(v:Option bp):ca H d v d=v:=by simp[ca]
theorem az(H:Nat→Option bp){d i:Nat}(v:Option bp)(h:i≠d):ca H d v i=H i:=by
 have:Nat.beq i d=false:=by rw[←nN,w1];exact h
 simp[ca,this]
theorem RL(ups:jr): ∀σ:St,(σ.w3 ups).H=cP σ.H ups:=by
 induction ups with
 |nil=>intro σ;rfl
 |cons u r ih=>intro σ;exact ih _
theorem RM(ups:jr): ∀σ:St,(σ.w3 ups).T=σ.T:=by
 induction ups with
 |nil=>intro σ;rfl
 |cons u r ih=>intro σ;exact ih _
theorem eY(a b:jr): ∀H,cP H (a++b)=cP (cP H a) b:=by
 induction a with
 |nil=>intro H;rfl
 |cons u r ih=>intro H;exact ih _
theorem yu{H:Nat→Option bp}{id j:Nat}{v:bp}(h:H j≠none):ca H id (some v) j≠none:=by
 by_cases hj:j=id
 ·subst hj;rw[ay];simp
 ·rw[az _ _ hj];exact h
theorem Lv{H:Nat→Option bp}{w:World}{ν:Nat→Value}(h: ∀i τ x p j,H i=some (.gg τ x p j)→H j≠none∧ ∃b,ν i= .pointer (some ⟨b,0,none⟩)∧w.cell? ⟨b,cy p τ,none⟩=some (ν j)){id:Nat}{v:bp}(hv: ∀τ x p j,v≠ .gg τ x p j):
  ∀i τ x p j,ca H id (some v) i=some (.gg τ x p j)→ca H id (some v) j≠none∧ ∃b,ν i= .pointer (some ⟨b,0,none⟩)∧w.cell? ⟨b,cy p τ,none⟩=some (ν j):=by
 intro i τ x p j hi
 by_cases ch:i=id
 ·subst ch;rw[ay]at hi;cases hi;exact absurd rfl (hv _ _ _ _)
 ·rw[az _ _ ch]at hi
  obtain⟨h1,h2⟩:=h i τ x p j hi
  exact⟨yu h1,h2⟩
theorem Tr.gone{c:Ctx}{H:Nat→Option bp}{w:World}{M:Nat→Prop}{ν:Nat→Value}(h:Mem c H w M ν)(id:Nat):Tr c H w M ν (ca H id (some .gone)) w M ν:=by
 refine⟨⟨λi e he=> ?_,λi j e e' b qh hi hm hj jv=> ?_,λi e b hi hm=> ?_,λi e l b hi=> ?_,Lv h.gg (λ_ _ _ _=>by simp),h.sub,h.Gn,h.frame,h.size,h.wB,h.os,h.tape,h.output⟩,.refl w M,⟨λi e he=> ?_,λ_ _=>rfl⟩⟩
 ·by_cases bg:i=id
  ·subst bg;rw[ay]at he;cases he;simp[ER]
  ·rw[az _ _ bg]at he;exact h.jO i e he
 ·by_cases bg:i=id
  ·subst bg;rw[ay]at hi;cases hi;simp[bp.mut]at hm
  ·by_cases hjd:j=id
   ·subst hjd;rw[ay]at hj;cases hj;simp[bp.mut]at jv
   ·rw[az _ _ bg]at hi;rw[az _ _ hjd]at hj;exact h.AT i j e e' b qh hi hm hj jv
 ·by_cases bg:i=id
  ·subst bg;rw[ay]at hi;cases hi;simp[bp.mut]at hm
  ·rw[az _ _ bg]at hi;exact h.new i e b hi hm
 ·by_cases bg:i=id
  ·subst bg;rw[ay]at hi;cases hi
  ·rw[az _ _ bg]at hi;exact h.qf i e l b hi
 ·by_cases bg:i=id
  ·subst bg;exact⟨.gone,ay _ _ _,by cases e<;>simp[bp.lP]⟩
  ·exact⟨e,by rw[az _ _ bg];exact he,.refl e⟩
theorem cell_of{w:World}{b:Nat}{cs:Array Value}{t:TypeId}{fz:Nat×Nat}(h:w.heap[b]? =some (.cells cs t fz))(o:Nat):w.cell? ⟨b,o,none⟩=cs[o]? :=by
 simp[World.cell?,h]
theorem At.of_block{w:World}{b:Nat}{cs:Array Value}{t:TypeId}{fz:Nat×Nat}(h:w.heap[b]? =some (.cells cs t fz))(o n:Nat):
  At w b o ((cs.toList.drop o).take n):=by
 intro j v hj
 rw[cell_of h]
 rw[mR]at hj
 split at hj
 ·rw[mS]at hj;simpa using hj
 ·cases hj
theorem lt_of_block{w:World}{b:Nat}{o:Obj}(h:w.heap[b]? =some o):b<w.heap.size:=(lJ.1 h).1
theorem ER.bZ{w w':World}{M M':Nat→Prop}{v:Value}(k:fO w M w' M'): ∀{e:bp},
  (e.mut→ ∀b,fC v=some b→w'.heap[b]? =w.heap[b]? ∧M' b)→ER w M v e→ER w' M' v e
 | .obj τ x,hm,h=>by
  simp only[ER]at h ⊢
  obtain⟨b,cs,t,rfl,hb,hM,hr⟩:=h
  obtain⟨h1,h2⟩:=hm trivial b rfl
  exact⟨b,cs,t,rfl,h1.trans hb,h2,hr.bZ k⟩
 | .gg τ x p j,hm,h=>by
  simp only[ER]at h ⊢
  obtain⟨b,cs,t,ka,u,rfl,hb,hM,hr,h3⟩:=h
  obtain⟨h1,h2⟩:=hm trivial b rfl
  exact⟨b,cs,t,ka,u,rfl,h1.trans hb,h2,hr.bZ k,h3⟩
 | .own e l,hm,h=>by
  simp only[ER]at h ⊢
  rcases h with h|⟨b,cs,t,cap,rfl,hb,hM,hc,hl,Fl,hs,hr⟩
  ·exact .inl h
  ·obtain⟨h1,h2⟩:=hm trivial b (by simp[fC];omega)
   exact .inr ⟨b,cs,t,cap,rfl,h1.trans hb,h2,hc,hl,Fl,hs,λi hi=>(hr i hi).bZ k⟩
 | .pq e l,_,h=>by
  simp only[ER]at h ⊢
  exact⟨h.1.bZ k,h.2⟩
 | .gone,_,_=>by simp[ER]
theorem ER.xe{w:World}{M:Nat→Prop}{v:Value}{e:bp}(h:ER w M v e)(hm:e.mut){b:Nat}(hb:fC v=some b):M b:=by
 cases e with
 |obj τ x=>simp only[ER]at h;obtain⟨b',cs,t,hv,fa,hM,_⟩:=h;rw[hv]at hb;simp only[fC,iB]at hb;subst hb;exact hM
 |gg τ x p j=>simp only[ER]at h;obtain⟨b',cs,t,_,_,hv,fa,hM,_⟩:=h;rw[hv]at hb;simp only[fC,iB]at hb;subst hb;exact hM
 |own e1 l1=>
  simp only[ER]at h
  rcases h with⟨_,a,hv⟩|⟨b',cs,t,cap,hv,fa,hM,hc,_⟩
  ·rw[hv]at hb;cases a<;>simp[fC]at hb
  ·rw[hv]at hb;simp only[fC]at hb;split at hb
   ·cases hb
   ·simp only[iB]at hb;subst hb;exact hM
 |pq _ _=>simp[bp.mut]at hm
 |gone=>simp[bp.mut]at hm
theorem Tr.freeze{c:Ctx}{H:Nat→Option bp}{w:World}{M:Nat→Prop}{ν:Nat→Value}(h:Mem c H w M ν){id:Nat}{e:Ty}{l:List e.den}(bg:H id=some (.own e l)):
  ∃M',Tr c H w M ν (ca H id (some (.pq e l))) w M' ν∧V w M' (.slice e) (ν id) l∧ ∀b,M' b↔(M b∧fC (ν id)≠some b):=by
 have hk:fO w M w (λb=>M b∧fC (ν id)≠some b):=⟨aH _,λ_ _ _=>rfl,λ_ _ h=>h.1⟩
 have he:=h.jO id _ bg
 have kB:Rd w (λb=>M b∧fC (ν id)≠some b) (.slice e) [ν id] l:=by
  simp only[ER]at he
  simp only[Rd]
  rcases he with⟨rfl,a,hv⟩|⟨b,cs,t,cap,hv,hb,hM,hc,hl,Fl,hs,hr⟩
  ·exact⟨a,0,by rw[hv];rfl,aH _,λi hi=>absurd hi (by simp)⟩
  ·refine⟨_,cap,by rw[hv],hl,λi hi=>⟨b,0,rfl,lt_of_block hb,λhm=>hm.2 (by rw[hv];simp[fC];omega),_,?_,(hr i hi).bZ hk⟩⟩
   rw[gn]
   exact At.of_block hb _ _
 refine⟨λb=>M b∧fC (ν id)≠some b,⟨⟨λi e' hi=> ?_,λi j e1 e2 b qh hi hm hj jv=> ?_,λi e1 b hi hm=> ?_,λi e1 l1 b hi=> ?_,Lv h.gg (λ_ _ _ _=>by simp),λb hb=>⟨h.sub b hb,λhm=>h.qf id e l b bg hm hb⟩,λb hb=>h.Gn b hb.1,h.frame,h.size,h.wB,h.os,h.tape,h.output⟩,hk,⟨λi e' hi=> ?_,λ_ _=>rfl⟩⟩,?_,λ_=>Iff.rfl⟩
 ·by_cases ch:i=id
  ·subst ch;rw[ay]at hi;cases hi
   simp only[ER]
   refine⟨kB,?_⟩
   simp only[ER]at he
   rcases he with⟨rfl,a,hv⟩|⟨b,cs,t,cap,hv,_⟩
   ·exact .inl ⟨rfl,a,0,0,hv⟩
   ·exact .inr ⟨b,_,cap,hv⟩
  ·rw[az _ _ ch]at hi
   refine(h.jO i e' hi).bZ hk (λhm b hb=>⟨rfl,?_,?_⟩)
   ·exact(h.jO i e' hi).xe hm hb
   ·exact h.AT i id e' (.own e l) b ch hi hm bg trivial hb
 ·by_cases ch:i=id
  ·subst ch;rw[ay]at hi;cases hi;simp[bp.mut]at hm
  ·by_cases I3:j=id
   ·subst I3;rw[ay]at hj;cases hj;simp[bp.mut]at jv
   ·rw[az _ _ ch]at hi;rw[az _ _ I3]at hj;exact h.AT i j e1 e2 b qh hi hm hj jv
 ·by_cases ch:i=id
  ·subst ch;rw[ay]at hi;cases hi;simp[bp.mut]at hm
  ·rw[az _ _ ch]at hi;exact h.new i e1 b hi hm
 ·by_cases ch:i=id
  ·subst ch;rw[ay]at hi;cases hi
  ·rw[az _ _ ch]at hi;exact h.qf i e1 l1 b hi
 ·by_cases ch:i=id
  ·subst ch;rw[bg]at hi;cases hi;exact⟨_,ay _ _ _,rfl,rfl⟩
  ·exact⟨e',by rw[az _ _ ch];exact hi,.refl e'⟩
 ·unfold V;rw[ah (by simp[Ty.isAgg])];exact kB
theorem Tr.fix{c:Ctx}{H:Nat→Option bp}{w:World}{M:Nat→Prop}{ν:Nat→Value}(h:Mem c H w M ν){id:Nat}{τ:Ty}{x:τ.den}(bg:H id=some (.obj τ x)):
  ∃M' b,Tr c H w M ν (ca H id (some .gone)) w M' ν∧ν id= .pointer (some ⟨b,0,none⟩)∧b<w.heap.size∧ ¬M' b∧ ∃cs,At w b 0 cs∧Rd w M' τ cs x:=by
 have he:=h.jO id _ bg
 simp only[ER]at he
 obtain⟨b0,cs,t,hv,hb,hM,hr⟩:=he
 have xf:fC (ν id)=some b0:=by rw[hv];rfl
 have hk:fO w M w (λb=>M b∧b≠b0):=⟨aH _,λ_ _ _=>rfl,λ_ _ h=>h.1⟩
 have Gp: ¬c.M0 b0:=λhm=>(h.new id _ b0 bg trivial xf).elim (λhB=>by have:=h.wB.1 b0 hm;omega) (λhB=>h.wB.2 b0 hB hm)
 refine⟨λb=>M b∧b≠b0,b0,⟨⟨λi e' hi=> ?_,λi j e1 e2 b qh hi hm hj jv=> ?_,λi e1 b hi hm=> ?_,λi e1 l1 b hi=> ?_,Lv h.gg (λ_ _ _ _=>by simp),λb fa=>⟨h.sub b fa,λe=>Gp (e▸fa)⟩,λb fa=>h.Gn b fa.1,h.frame,h.size,h.wB,h.os,h.tape,h.output⟩,hk,⟨λi e' hi=> ?_,λ_ _=>rfl⟩⟩,hv,lt_of_block hb,λhm=>hm.2 rfl,cs.toList,?_,hr.bZ hk⟩
 ·by_cases ch:i=id
  ·subst ch;rw[ay]at hi;cases hi;simp[ER]
  ·rw[az _ _ ch]at hi
   refine(h.jO i e' hi).bZ hk (λhm b fa=>⟨rfl,?_,?_⟩)
   ·exact(h.jO i e' hi).xe hm fa
   ·intro e
    exact h.AT i id e' (.obj τ x) b ch hi hm bg trivial fa (by rw[xf,e])
 ·by_cases ch:i=id
  ·subst ch;rw[ay]at hi;cases hi;simp[bp.mut]at hm
  ·by_cases I3:j=id
   ·subst I3;rw[ay]at hj;cases hj;simp[bp.mut]at jv
   ·rw[az _ _ ch]at hi;rw[az _ _ I3]at hj;exact h.AT i j e1 e2 b qh hi hm hj jv
 ·by_cases ch:i=id
  ·subst ch;rw[ay]at hi;cases hi;simp[bp.mut]at hm
  ·rw[az _ _ ch]at hi;exact h.new i e1 b hi hm
 ·by_cases ch:i=id
  ·subst ch;rw[ay]at hi;cases hi
  ·rw[az _ _ ch]at hi;exact h.qf i e1 l1 b hi
 ·by_cases ch:i=id
  ·subst ch;rw[bg]at hi;cases hi;exact⟨_,ay _ _ _,trivial⟩
  ·exact⟨e',by rw[az _ _ ch];exact hi,.refl e'⟩
 ·have:=At.of_block hb 0 cs.toList.length
  rwa [cV,gN]at this
theorem Gq(w:World)(o:Obj):(w.alloc o).heap[w.heap.size]? =some o:=by
 show(w.heap.push o)[w.heap.size]? =some o
 simp
theorem rl(w:World)(o:Obj){i:Nat}(h:i<w.heap.size):(w.alloc o).heap[i]? =w.heap[i]? :=by
 show(w.heap.push o)[i]? =w.heap[i]?
 rw[Array.getElem?_push,ah (Nat.ne_of_lt h)]
theorem size_alloc(w:World)(o:Obj):(w.alloc o).heap.size=w.heap.size+1:=by
 show(w.heap.push o).size=_
 simp
def updν(ν:Nat→Value)(d:Nat)(v:Value):Nat→Value:=λi=>if i=d then v else ν i
theorem rW{c:Ctx}{H:Nat→Option bp}{w w':World}{M:Nat→Prop}{ν ν':Nat→Value}(h:Mem c H w M ν){H':Nat→Option bp}
  (hν: ∀i,H i≠none→ν' i=ν i) (hn: ∀i,H i≠none→H' i≠none)
  (hi: ∀i τ x p j,H' i=some (.gg τ x p j)→(H i=some (.gg τ x p j)∧ ∀b,ν i= .pointer (some ⟨b,0,none⟩)→w'.heap[b]? =w.heap[b]?)∨(H' j≠none∧ ∃b,ν' i= .pointer (some ⟨b,0,none⟩)∧w'.cell? ⟨b,cy p τ,none⟩=some (ν' j))):
  ∀i τ x p j,H' i=some (.gg τ x p j)→H' j≠none∧ ∃b,ν' i= .pointer (some ⟨b,0,none⟩)∧w'.cell? ⟨b,cy p τ,none⟩=some (ν' j):=by
 intro i τ x p j he
 rcases hi i τ x p j he with⟨h1,hb⟩|h1
 ·obtain⟨h2,b,h3,h4⟩:=h.gg i τ x p j h1
  refine⟨hn j h2,b,by rw[hν i (by rw[h1];simp)];exact h3,?_⟩
  rw[hν j h2,World.cell?_of_block (w:=w) (hb b h3)]
  exact h4
 ·exact h1
theorem yv{H:Nat→Option bp}{id:Nat}{v:bp}: ∀i,H i≠none→ca H id (some v) i≠none:=λ_ h=>yu h
theorem AU{H:Nat→Option bp}{id:Nat}{v:bp}(hv: ∀τ x p j,v≠ .gg τ x p j){i:Nat}{τ:Ty}{x:τ.den}{p:List Step}{j:Nat}(h:ca H id (some v) i=some (.gg τ x p j)):H i=some (.gg τ x p j):=by
 by_cases ch:i=id
 ·subst ch;rw[ay]at h;cases h;exact absurd rfl (hv _ _ _ _)
 ·rw[az _ _ ch]at h;exact h
theorem Tr.alloc{c:Ctx}{H:Nat→Option bp}{w:World}{M:Nat→Prop}{ν:Nat→Value}(h:Mem c H w M ν){id:Nat}(bg:H id=none)(o:Obj)(v:Value)(e:bp)(hm:e.mut)(J5: ∀τ x p j,e≠ .gg τ x p j)
  (hb:fC v=none∨fC v=some w.heap.size) (U3:ER (w.alloc o) (λb=>M b∨b=w.heap.size) v e):
  Tr c H w M ν (ca H id (some e)) (w.alloc o) (λb=>M b∨b=w.heap.size) (updν ν id v):=by
 have hk:fO w M (w.alloc o) (λb=>M b∨b=w.heap.size):=
  ⟨by rw[size_alloc];omega,λb hb _=>rl w o hb,λb hb h'=>h'.resolve_right ω⟩
 have hν: ∀i,i≠id→updν ν id v i=ν i:=λi hi=>by simp[updν,hi]
 have hνs:updν ν id v id=v:=by simp[updν]
 have eT: ∀i e' b,H i=some e'→e'.mut→fC (ν i)=some b→b<w.heap.size:=λi e' b hi jv fa=>h.Gn b ((h.jO i e' hi).xe jv fa)
 refine⟨⟨λi e' hi=> ?_,λi j e1 e2 b qh hi tT hj yw=> ?_,λi e1 b hi tT=> ?_,λi e1 l1 b hi=> ?_,rW h (λi hi=>hν i (λe=>hi (e▸bg))) yv (λi τ x p j hi=> .inl ⟨AU J5 hi,λb hb=>rl w o (eT i _ b (AU J5 hi) trivial (by rw[hb];rfl))⟩),λb hb=> .inl (h.sub b hb),λb fa=> ?_,λb nk uX=> ?_,?_,h.wB,h.os,h.tape,h.output⟩,hk,⟨λi e' hi=> ?_,λi hi=> ?_⟩⟩
 ·by_cases ch:i=id
  ·subst ch;rw[ay]at hi;cases hi;rw[hνs];exact U3
  ·rw[az _ _ ch]at hi;rw[hν i ch]
   exact(h.jO i e' hi).bZ hk λjv b fa=>⟨rl w o (eT i e' b hi jv fa),.inl ((h.jO i e' hi).xe jv fa)⟩
 ·by_cases ch:i=id
  ·subst ch;rw[ay]at hi;cases hi;rw[hνs]
   intro nk
   have I3:j≠i:=fh qh
   rw[az _ _ I3]at hj;rw[hν j I3]
   intro uX
   have:=eT j e2 b hj yw uX
   rcases hb with hb|hb<;>rw[hb]at nk<;>simp at nk
   omega
  ·rw[az _ _ ch]at hi;rw[hν i ch]
   by_cases I3:j=id
   ·subst I3;rw[hνs]
    intro nk uX
    have:=eT i e1 b hi tT nk
    rcases hb with hb|hb<;>rw[hb]at uX<;>simp at uX
    omega
   ·rw[az _ _ I3]at hj;rw[hν j I3];exact h.AT i j e1 e2 b qh hi tT hj yw
 ·by_cases ch:i=id
  ·subst ch;rw[hνs]
   intro nk
   rcases hb with hb|hb<;>rw[hb]at nk<;>simp at nk
   subst nk;exact .inl h.size
  ·rw[az _ _ ch]at hi;rw[hν i ch];exact h.new i e1 b hi tT
 ·by_cases ch:i=id
  ·subst ch;rw[hνs]
   intro nk h0
   rcases hb with hb|hb<;>rw[hb]at nk<;>simp at nk
   have:=h.wB.1 b h0
   have:=h.size
   omega
  ·rw[az _ _ ch]at hi;rw[hν i ch];exact h.qf i e1 l1 b hi
 ·rw[size_alloc]
  rcases fa with fa|fa
  ·have:=h.Gn b fa;omega
  ·omega
 ·rw[rl w o (nM nk h.size)];exact h.frame b nk uX
 ·rw[size_alloc];have:=h.size;omega
 ·by_cases ch:i=id
  ·subst ch;rw[bg]at hi;cases hi
  ·exact⟨e',by rw[az _ _ ch];exact hi,.refl e'⟩
 ·have ch:i≠id:=λe=>hi (e▸bg)
  exact hν i ch
theorem Tr.var{c:Ctx}{H:Nat→Option bp}{w:World}{M:Nat→Prop}{ν:Nat→Value}(h:Mem c H w M ν){id:Nat}(bg:H id=none)(t:TypeId){τ:Ty}{cs:Array Value}{x:τ.den}(hr:Rd w M τ cs.toList x):
  Tr c H w M ν (ca H id (some (.obj τ x))) (w.alloc (.cells cs t)) (λb=>M b∨b=w.heap.size) (updν ν id (.pointer (some ⟨w.heap.size,0,none⟩))):=by
 refine Tr.alloc h bg _ _ _ trivial (λ_ _ _ _=>by simp) (.inr rfl) ?_
 simp only[ER]
 have hk:fO w M (w.alloc (.cells cs t)) (λb=>M b∨b=w.heap.size):=
  ⟨by rw[size_alloc];omega,λb hb _=>rl w _ hb,λb hb h'=>h'.resolve_right ω⟩
 exact⟨w.heap.size,cs,t,rfl,Gq w _,.inr rfl,hr.bZ hk⟩
theorem Tr.row{c:Ctx}{H:Nat→Option bp}{w:World}{M:Nat→Prop}{ν:Nat→Value}(h:Mem c H w M ν){id:Nat}(bg:H id=none)(t:TypeId){e:Ty}{cs:Array Value}{l:List e.den}{cap:Nat}
  (hl:l.length≤cap) (hm:cap≤maxLen) (hs:cs.size=cap*e.size) (hr: ∀i (hi:i<l.length),Rd w M e ((cs.toList.drop (i*e.size)).take e.size) l[i]):
  Tr c H w M ν (ca H id (some (.own e l))) (w.alloc (.cells cs t)) (λb=>M b∨b=w.heap.size) (updν ν id (.slice (some ⟨w.heap.size,0,none⟩) l.length cap)):=by
 have hk:fO w M (w.alloc (.cells cs t)) (λb=>M b∨b=w.heap.size):=
  ⟨by rw[size_alloc];omega,λb hb _=>rl w _ hb,λb hb h'=>h'.resolve_right ω⟩
 refine Tr.alloc h bg _ _ _ trivial (λ_ _ _ _=>by simp) ?_ ?_
 ·simp only[fC];split
  ·exact .inl rfl
  ·exact .inr rfl
 ·simp only[ER]
  by_cases hc:cap=0
  ·subst hc
   have hl0:l=[]:=uZ ω
   subst hl0
   exact .inl ⟨rfl,_,rfl⟩
  ·exact .inr ⟨w.heap.size,cs,t,cap,rfl,Gq w _,.inr rfl,ω,hl,hm,hs,λi hi=>(hr i hi).bZ hk⟩
theorem Tr.drew{c:Ctx}{H:Nat→Option bp}{w:World}{M:Nat→Prop}{ν:Nat→Value}(h:Mem c H w M ν):Tr c H w M ν H w.drew M ν:=by
 have hk:fO w M w.drew M:=⟨aH _,λ_ _ _=>rfl,λ_ _ h=>h⟩
 exact⟨⟨λi e he=>(h.jO i e he).bZ hk λhm b hb=>⟨rfl,(h.jO i e he).xe hm hb⟩,h.AT,h.new,h.qf,h.gg,h.sub,h.Gn,h.frame,h.size,h.wB,h.os,h.tape,h.output⟩,hk,.refl H ν⟩
theorem size_setRow(w:World)(g:Nat)(cs:Array Value):(w.setRow g cs).heap.size=w.heap.size:=by simp[World.setRow]
theorem Tr.write{c:Ctx}{H:Nat→Option bp}{w:World}{M:Nat→Prop}{ν:Nat→Value}(h:Mem c H w M ν){id:Nat}{e e':bp}(bg:H id=some e)(hm:e.mut)(jv:e'.mut)(hl:e.lP e')
  {b:Nat} (hb:fC (ν id)=some b) {cs new:Array Value} {t:TypeId} (hg:w.heap[b]? =some (.cells cs t (0,0)))
  (U3: ∀M',fO w M (w.setRow b new) M'→M' b→ER (w.setRow b new) M' (ν id) e')
  (qA: ∀τ x p j,e'= .gg τ x p j→H j≠none∧ ∃b',ν id= .pointer (some ⟨b',0,none⟩)∧(w.setRow b new).cell? ⟨b',cy p τ,none⟩=some (ν j):=by intro _ _ _ _ h;cases h):
  Tr c H w M ν (ca H id (some e')) (w.setRow b new) M ν:=by
 have hMb:M b:=(h.jO id e bg).xe hm hb
 have hk:fO w M (w.setRow b new) M:=
  ⟨by rw[size_setRow];exact aH _,λb' _ hm=>setRow_other w b b' new (λe=>hm (e▸hMb)),λ_ _ h=>h⟩
 refine⟨⟨λi e1 hi=> ?_,λi j e1 e2 b1 qh hi tT hj yw=> ?_,λi e1 b1 hi tT=> ?_,λi e1 l1 b1 hi=> ?_,rW h (λ_ _=>rfl) yv (λi τ x p j hi=> ?_),h.sub,λb1 nk=>by rw[size_setRow];exact h.Gn b1 nk,λb1 nk uX=> ?_,by rw[size_setRow];exact h.size,h.wB,h.os,h.tape,h.output⟩,hk,⟨λi e1 hi=> ?_,λi hi=>rfl⟩⟩
 ·by_cases ch:i=id
  ·subst ch;rw[ay]at hi;cases hi;exact U3 M hk hMb
  ·rw[az _ _ ch]at hi
   exact(h.jO i e1 hi).bZ hk λtT b1 nk=>⟨setRow_other w b b1 new (λe'=>h.AT i id e1 e b1 ch hi tT bg hm nk (e'▸hb)),(h.jO i e1 hi).xe tT nk⟩
 ·by_cases ch:i=id
  ·subst ch;rw[ay]at hi;cases hi
   have I3:j≠i:=fh qh
   rw[az _ _ I3]at hj
   exact h.AT i j e e2 b1 qh bg hm hj yw
  ·rw[az _ _ ch]at hi
   by_cases I3:j=id
   ·subst I3;exact h.AT i j e1 e b1 qh hi tT bg hm
   ·rw[az _ _ I3]at hj;exact h.AT i j e1 e2 b1 qh hi tT hj yw
 ·by_cases ch:i=id
  ·subst ch;exact h.new i e b1 bg hm
  ·rw[az _ _ ch]at hi;exact h.new i e1 b1 hi tT
 ·by_cases ch:i=id
  ·subst ch;rw[ay]at hi;cases hi
   cases e with
   |own e0 l0=>exact h.qf i e0 l0 b1 bg
   |obj _ _=>simp[bp.lP]at hl
   |gg _ _ _ _=>simp[bp.lP]at hl
   |pq _ _=>simp[bp.mut]at hm
   |gone=>simp[bp.mut]at hm
  ·rw[az _ _ ch]at hi;exact h.qf i e1 l1 b1 hi
 ·by_cases ch:i=id
  ·subst ch;rw[ay]at hi;cases hi
   obtain⟨h1,h2⟩:=qA _ _ _ _ rfl
   exact .inr ⟨yu h1,h2⟩
  ·rw[az _ _ ch]at hi
   exact .inl ⟨hi,λb1 nk=>setRow_other w b b1 new (λe1=>h.AT i id _ e b1 ch hi trivial bg hm (by rw[nk];rfl) (e1▸hb))⟩
 ·rw[setRow_other w b b1 new]
  ·exact h.frame b1 nk uX
  ·intro hbb;subst hbb
   rcases h.new id e b1 bg hm hb with h'|h'
   ·omega
   ·exact uX h'
 ·by_cases ch:i=id
  ·subst ch;rw[bg]at hi;cases hi;exact⟨e',ay _ _ _,hl⟩
  ·exact⟨e1,by rw[az _ _ ch];exact hi,.refl e1⟩
theorem Tr.rename{c:Ctx}{H:Nat→Option bp}{w:World}{M:Nat→Prop}{ν:Nat→Value}(h:Mem c H w M ν){j id:Nat}{e e':Ty}{l:List e.den}{l':List e'.den}(hj:H j=some (.own e l))(bg:H id=none)
  {v:Value} (hb:fC v=none∨fC v=fC (ν j)) (U3:ER w M v (.own e' l')):
  Tr c H w M ν (ca (ca H j (some .gone)) id (some (.own e' l'))) w M (updν ν id v):=by
 have ko:j≠id:=λe=>by rw[e,bg]at hj;cases hj
 have h1:=(Tr.gone h j).mem
 have qi:ca H j (some .gone) id=none:=by rw[az _ _ (fh ko)];exact bg
 have hν: ∀i,i≠id→updν ν id v i=ν i:=λi hi=>by simp[updν,hi]
 have hνs:updν ν id v id=v:=by simp[updν]
 refine⟨⟨λi e1 hi=> ?_,λi k e1 e2 b1 qh hi tT hk yw=> ?_,λi e1 b1 hi tT=> ?_,λi e1 l1 b1 hi=> ?_,rW h1 (λi hi=>hν i (λe=>hi (e▸qi))) yv (λi τ x p j hi=> .inl ⟨AU (λ_ _ _ _=>by simp) hi,λ_ _=>rfl⟩),h.sub,h.Gn,h.frame,h.size,h.wB,h.os,h.tape,h.output⟩,.refl w M,⟨λi e1 hi=> ?_,λi hi=> ?_⟩⟩
 ·by_cases ch:i=id
  ·subst ch;rw[ay]at hi;cases hi;rw[hνs];exact U3
  ·rw[az _ _ ch]at hi;rw[hν i ch];exact h1.jO i e1 hi
 ·by_cases ch:i=id
  ·subst ch;rw[ay]at hi;cases hi;rw[hνs]
   have NU:k≠i:=fh qh
   rw[az _ _ NU]at hk;rw[hν k NU]
   intro nk
   rcases hb with hb|hb
   ·rw[hb]at nk;cases nk
   ·rw[hb]at nk
    by_cases hkj:k=j
    ·subst hkj;rw[ay]at hk;cases hk;simp[bp.mut]at yw
    ·rw[az _ _ hkj]at hk;exact h.AT j k _ e2 b1 (fh hkj) hj trivial hk yw nk
  ·rw[az _ _ ch]at hi;rw[hν i ch]
   by_cases NU:k=id
   ·subst NU;rw[hνs]
    intro nk uX
    rcases hb with hb|hb
    ·rw[hb]at uX;cases uX
    ·rw[hb]at uX
     by_cases Jl:i=j
     ·subst Jl;rw[ay]at hi;cases hi;simp[bp.mut]at tT
     ·rw[az _ _ Jl]at hi;exact h.AT j i _ e1 b1 (fh Jl) hj trivial hi tT uX nk
   ·rw[az _ _ NU]at hk;rw[hν k NU];exact h1.AT i k e1 e2 b1 qh hi tT hk yw
 ·by_cases ch:i=id
  ·subst ch;rw[hνs];intro nk
   rcases hb with hb|hb
   ·rw[hb]at nk;cases nk
   ·rw[hb]at nk;exact h.new j _ b1 hj trivial nk
  ·rw[az _ _ ch]at hi;rw[hν i ch];exact h1.new i e1 b1 hi tT
 ·by_cases ch:i=id
  ·subst ch;rw[hνs];intro nk
   rcases hb with hb|hb
   ·rw[hb]at nk;cases nk
   ·rw[hb]at nk;exact h.qf j e l b1 hj nk
  ·rw[az _ _ ch]at hi;rw[hν i ch];exact h1.qf i e1 l1 b1 hi
 ·by_cases Jl:i=j
  ·subst Jl;exact⟨.gone,by rw[az _ _ ko,ay],by cases e1<;>simp[bp.lP]⟩
  ·have ch:i≠id:=λe=>by rw[e,bg]at hi;cases hi
   exact⟨e1,by rw[az _ _ ch,az _ _ Jl];exact hi,.refl e1⟩
 ·exact hν i (λe=>hi (e▸bg))
theorem Tr.Jm{c:Ctx}{H:Nat→Option bp}{w:World}{M:Nat→Prop}{ν:Nat→Value}(h:Mem c H w M ν){id:Nat}{e e':bp}(bg:H id=some e)(hm:e.mut)(jv:e'.mut)(hl:e.lP e')(qj: ∀e0 l0,e'≠ .own e0 l0)
  (U3:ER w M (ν id) e') (qA: ∀τ x p j,e'= .gg τ x p j→H j≠none∧ ∃b',ν id= .pointer (some ⟨b',0,none⟩)∧w.cell? ⟨b',cy p τ,none⟩=some (ν j)):
  Tr c H w M ν (ca H id (some e')) w M ν:=by
 refine⟨⟨λi e1 hi=> ?_,λi j e1 e2 b1 qh hi tT hj yw=> ?_,λi e1 b1 hi tT=> ?_,λi e1 l1 b1 hi=> ?_,rW h (λ_ _=>rfl) yv (λi τ x p j hi=> ?_),h.sub,h.Gn,h.frame,h.size,h.wB,h.os,h.tape,h.output⟩,.refl w M,⟨λi e1 hi=> ?_,λi hi=>rfl⟩⟩
 ·by_cases ch:i=id
  ·subst ch;rw[ay]at hi;cases hi;exact U3
  ·rw[az _ _ ch]at hi;exact h.jO i e1 hi
 ·by_cases ch:i=id
  ·subst ch;rw[ay]at hi;cases hi
   have I3:j≠i:=fh qh
   rw[az _ _ I3]at hj
   exact h.AT i j e e2 b1 qh bg hm hj yw
  ·rw[az _ _ ch]at hi
   by_cases I3:j=id
   ·subst I3;exact h.AT i j e1 e b1 qh hi tT bg hm
   ·rw[az _ _ I3]at hj;exact h.AT i j e1 e2 b1 qh hi tT hj yw
 ·by_cases ch:i=id
  ·subst ch;exact h.new i e b1 bg hm
  ·rw[az _ _ ch]at hi;exact h.new i e1 b1 hi tT
 ·by_cases ch:i=id
  ·subst ch;rw[ay]at hi;cases hi;exact absurd rfl (qj _ _)
  ·rw[az _ _ ch]at hi;exact h.qf i e1 l1 b1 hi
 ·by_cases ch:i=id
  ·subst ch;rw[ay]at hi;cases hi
   obtain⟨h1,h2⟩:=qA _ _ _ _ rfl
   exact .inr ⟨yu h1,h2⟩
  ·rw[az _ _ ch]at hi;exact .inl ⟨hi,λ_ _=>rfl⟩
 ·by_cases ch:i=id
  ·subst ch;rw[bg]at hi;cases hi;exact⟨e',ay _ _ _,hl⟩
  ·exact⟨e1,by rw[az _ _ ch];exact hi,.refl e1⟩
theorem Tr.nothing{c:Ctx}{w:World}{M:Nat→Prop}{ν:Nat→Value}{H:Nat→Option bp}(h:Mem c H w M ν){id:Nat}(bg:H id=none)(e:Ty)(ad:Option Addr):
  Tr c H w M ν (ca H id (some (.own e []))) w M (updν ν id (.slice ad 0 0)):=by
 have hν: ∀i,i≠id→updν ν id (.slice ad 0 0) i=ν i:=λi hi=>by simp[updν,hi]
 have hνs:updν ν id (.slice ad 0 0) id= .slice ad 0 0:=by simp[updν]
 have hb:fC (.slice ad 0 0)=none:=by cases ad<;>simp[fC]
 refine⟨⟨λi e1 hi=> ?_,λi k e1 e2 b1 qh hi tT hk yw=> ?_,λi e1 b1 hi tT=> ?_,λi e1 l1 b1 hi=> ?_,rW h (λi hi=>hν i (λe=>hi (e▸bg))) yv (λi τ x p j hi=> .inl ⟨AU (λ_ _ _ _=>by simp) hi,λ_ _=>rfl⟩),h.sub,h.Gn,h.frame,h.size,h.wB,h.os,h.tape,h.output⟩,.refl w M,⟨λi e1 hi=> ?_,λi hi=>hν i (λe=>hi (e▸bg))⟩⟩
 ·by_cases ch:i=id
  ·subst ch;rw[ay]at hi;cases hi;rw[hνs];simp only[ER];exact .inl ⟨trivial,ad,rfl⟩
  ·rw[az _ _ ch]at hi;rw[hν i ch];exact h.jO i e1 hi
 ·by_cases ch:i=id
  ·subst ch;rw[hνs,hb];intro h';cases h'
  ·rw[az _ _ ch]at hi;rw[hν i ch]
   by_cases NU:k=id
   ·subst NU;rw[hνs,hb];intro _ h';cases h'
   ·rw[az _ _ NU]at hk;rw[hν k NU];exact h.AT i k e1 e2 b1 qh hi tT hk yw
 ·by_cases ch:i=id
  ·subst ch;rw[hνs,hb];intro h';cases h'
  ·rw[az _ _ ch]at hi;rw[hν i ch];exact h.new i e1 b1 hi tT
 ·by_cases ch:i=id
  ·subst ch;rw[hνs,hb];intro h';cases h'
  ·rw[az _ _ ch]at hi;rw[hν i ch];exact h.qf i e1 l1 b1 hi
 ·have ch:i≠id:=λe=>by rw[e,bg]at hi;cases hi
  exact⟨e1,by rw[az _ _ ch];exact hi,.refl e1⟩
theorem bw{α:Type}{υ τ:Ty}{y:υ.den}{k:τ.den→Option α}{r:α}(h:cJ υ τ y k=some r): ∃e:υ=τ,k (e▸y)=some r:=by
 unfold cJ at h
 split at h
 ·rename_i e;exact⟨e,h⟩
 ·cases h
theorem dU{α:Type}{υ τ:Ty}{k:Option α}{r:α}(h:js υ τ k=some r):υ=τ∧k=some r:=by
 unfold js at h
 split at h
 ·rename_i e;exact⟨e,h⟩
 ·cases h
theorem V.slice{w:World}{M:Nat→Prop}{e:Ty}{v:Value}{l:List e.den}:V w M (.slice e) v l↔Rd w M (.slice e) [v] l:=by
 unfold V;rw[ah (by simp[Ty.isAgg])]
def Fz(H H1:Nat→Option bp):Prop:= ∀i,H1 i=H i∨ ∃e l,H i=some (.own e l)∧H1 i=some (.pq e l)
theorem Fz.refl(H:Nat→Option bp):Fz H H:=λ_=> .inl rfl
theorem Fz.none{H H1:Nat→Option bp}(h:Fz H H1){i:Nat}(hi:H i=none):H1 i=none:=by
 rcases h i with h'|⟨e,l,h',_⟩
 ·rw[h',hi]
 ·rw[hi]at h';cases h'
theorem Fz.obj{H H1:Nat→Option bp}(h:Fz H H1){i:Nat}{τ:Ty}{x:τ.den}(hi:H i=some (.obj τ x)):H1 i=some (.obj τ x):=by
 rcases h i with h'|⟨e,l,h',_⟩
 ·rw[h',hi]
 ·rw[hi]at h';cases h'
theorem Cl{H:Nat→Option bp}{id:Nat}{e:Option bp}(h:H id=e):ca H id e=H:=by
 funext i
 by_cases hi:i=id
 ·subst hi;rw[ay,h]
 ·rw[az _ _ hi]
theorem la{α:Type}{c:Ctx}{H H1:Nat→Option bp}{w:World}{M:Nat→Prop}{ν:Nat→Value}(hz:Fz H H1)(hm:Mem c H1 w M ν){a:bA}{v:Value}(hv:VR w M H1 ν a v){τ:Ty}
  {k:τ.den→List Nat→jr→Option α} {r:α} (h:m0 true a H τ k=some r):
  ∃y rd ups M',k y rd ups=some r∧Tr c H1 w M ν (cP H1 ups) w M' ν∧V w M' τ v y∧Fz H (cP H1 ups)∧ ∀i,rd.contains i=false→cP H1 ups i=H1 i:=by
 unfold m0 at h
 split at h
 ·
  obtain⟨e,h⟩:=bw h
  subst e
  simp only[VR]at hv
  exact⟨_,[],[],M,h,.refl hm,hv,hz,λ_ _=>rfl⟩
 ·
  obtain⟨e,h⟩:=bw h
  subst e
  simp only[VR]at hv
  exact⟨_,[],[],M,h,.refl hm,hv.1,hz,λ_ _=>rfl⟩
 ·
  split at h
  ·rename_i e k' _
   simp only[VR]at hv
   obtain⟨a,rfl⟩:=hv
   refine⟨[],[],[],M,h,.refl hm,V.slice.2 ?_,hz,λ_ _=>rfl⟩
   simp only[Rd]
   exact⟨a,0,rfl,aH _,λi hi=>absurd hi (by simp)⟩
  ·cases h
 ·rename_i id
  simp only[VR]at hv
  obtain⟨_,rfl⟩:=hv
  split at h
  ·rename_i e l bg
   obtain⟨e',h⟩:=bw h
   subst e'
   rcases hz id with h1|⟨e1,l1,h1,h2⟩
   ·rw[bg]at h1
    obtain⟨M',gi,hV,_⟩:=Tr.freeze hm h1
    refine⟨_,_,_,M',h,gi,hV,λi=> ?_,λi hi=>az _ _ (by simpa using hi)⟩
    show ca H1 id (some (.pq e l)) i=H i∨_
    by_cases hi:i=id
    ·subst hi;exact .inr ⟨e,l,bg,ay _ _ _⟩
    ·rw[az _ _ hi]
     rcases hz i with h'|⟨e2,l2,h2,h3⟩
     ·exact .inl h'
     ·exact .inr ⟨e2,l2,h2,by show ca H1 id _ i=_;rw[az _ _ hi];exact h3⟩
   ·rw[bg]at h1;cases h1
    have:=hm.jO id _ h2
    simp only[ER]at this
    refine⟨_,_,[(id,some (.pq e l))],M,h,?_,V.slice.2 this.1,?_,λi hi=>az _ _ (by simpa using hi)⟩
    ·show Tr c H1 w M ν (ca H1 id (some (.pq e l))) w M ν
     rw[Cl h2];exact .refl hm
    ·show Fz H (ca H1 id (some (.pq e l)))
     rw[Cl h2];exact hz
  ·rename_i e l bg
   obtain⟨e',h⟩:=bw h
   subst e'
   have h1:H1 id=some (.pq e l):=by
    rcases hz id with h1|⟨e1,l1,h1,h2⟩
    ·rw[h1,bg]
    ·rw[bg]at h1;cases h1
   have:=hm.jO id _ h1
   simp only[ER]at this
   exact⟨_,_,_,M,h,.refl hm,V.slice.2 this.1,hz,λ_ _=>rfl⟩
  ·cases h
 ·cases h
def Src(w:World)(M:Nat→Prop)(e:Ty)(v:Value)(l:List e.den):Prop:=
 ∃a cap,v= .slice a l.length cap∧ ∀i (h:i<l.length),∃b off cs,a=some ⟨b,off,none⟩∧At w b (off+i*e.size) cs∧Rd w M e cs l[i]
theorem Src.abF{w:World}{M:Nat→Prop}{e:Ty}{v:Value}{l:List e.den}(h:V w M (.slice e) v l):Src w M e v l:=by
 have h:=V.slice.1 h
 simp only[Rd,fV,eF]at h
 obtain⟨a,cap,rfl,_,hr⟩:=h
 refine⟨a,cap,rfl,λi hi=> ?_⟩
 obtain⟨b,off,ha,_,_,cs,pt,kB⟩:=hr i hi
 exact⟨b,off,cs,ha,pt,kB⟩
theorem DD{α:Type}{c:Ctx}{H:Nat→Option bp}{w:World}{M:Nat→Prop}{ν:Nat→Value}(hm:Mem c H w M ν){a:bA}{v:Value}(hv:VR w M H ν a v){e:Ty}
  {k:List e.den→List Nat→jr→Option α} {r:α} (h:m0 false a H (.slice e) k=some r):
  ∃y rd,k y rd []=some r∧Src w M e v y:=by
 unfold m0 at h
 split at h
 ·obtain⟨e',h⟩:=bw h
  subst e'
  simp only[VR]at hv
  exact⟨_,[],h,.abF hv⟩
 ·obtain⟨e',h⟩:=bw h
  subst e'
  simp only[VR]at hv
  exact⟨_,[],h,.abF hv.1⟩
 ·have h:k [] [] []=some r:=h
  simp only[VR]at hv
  obtain⟨a,rfl⟩:=hv
  exact⟨[],[],h,a,0,rfl,λi hi=>absurd hi (by simp)⟩
 ·rename_i id
  simp only[VR]at hv
  obtain⟨_,rfl⟩:=hv
  split at h
  ·rename_i e1 l bg
   obtain⟨e',h⟩:=bw h
   cases e'
   refine⟨_,_,h,?_⟩
   have:=hm.jO id _ bg
   simp only[ER]at this
   rcases this with⟨rfl,a,hv⟩|⟨b,cs,t,cap,hv,hb,hM,hc,hl,Fl,hs,hr⟩
   ·exact⟨a,0,hv,λi hi=>absurd hi (by simp)⟩
   ·refine⟨_,cap,hv,λi hi=>⟨b,0,_,rfl,?_,hr i hi⟩⟩
    rw[gn]
    exact At.of_block hb _ _
  ·rename_i e1 l bg
   obtain⟨e',h⟩:=bw h
   cases e'
   have:=hm.jO id _ bg
   simp only[ER]at this
   exact⟨_,_,h,.abF (V.slice.2 this.1)⟩
  ·cases h
 ·cases h
theorem Src.cells{w:World}{M:Nat→Prop}{e:Ty}{v:Value}{l:List e.den}(h:Src w M e v l)(ko:l≠[]):
  ∃b off cap news,v= .slice (some ⟨b,off,none⟩) l.length cap∧news.length=l.length*e.size∧At w b off news∧
   (∀i (hi:i<l.length),Rd w M e ((news.drop (i*e.size)).take e.size) l[i])∧ ∀u∈news,u.oneCell'=true:=by
 obtain⟨a,cap,rfl,hr⟩:=h
 have h0:0<l.length:=pD.2 ko
 obtain⟨b,off,_,ha,_⟩:=hr 0 h0
 subst ha
 have key: ∀n,n≤l.length→ ∃news:List Value,news.length=n*e.size∧At w b off news∧
   (∀i (hi:i<l.length),i<n→Rd w M e ((news.drop (i*e.size)).take e.size) l[i])∧ ∀u∈news,u.oneCell'=true:=by
  intro n
  induction n with
  |zero=>exact λ_=>⟨[],by simp,λj v hj=>by simp at hj,λi _ hi=>ω,by simp⟩
  |succ n ih=>
   intro hn
   obtain⟨news,hl,pt,kB,Cm⟩:=ih ω
   obtain⟨b',aBU,cs,ha,auT,U4⟩:=hr n ω
   cases ha
   refine⟨news++cs,by rw[aS,hl,U4.length,eD,kT],At.append.2 ⟨pt,by rw[hl];exact auT⟩,λi hi kC=> ?_,λu hu=> ?_⟩
   ·by_cases eT:i<n
    ·have h1:(i+1)*e.size≤n*e.size:=kv _ eT
     rw[eD,kT]at h1
     rw[ym ω,yl (by rw[dY];omega)]
     exact kB i hi eT
    ·obtain rfl:i=n:=ω
     rw[mz hl,iz (by rw[U4.length];exact aH _)]
     exact U4
   ·rcases bk.1 hu with hu|hu
    ·exact Cm u hu
    ·exact U4.lM u hu
 obtain⟨news,hl,pt,kB,Cm⟩:=key l.length (aH _)
 exact⟨b,off,cap,news,rfl,hl,pt,λi hi=>kB i hi hi,Cm⟩
structure Core(c:Ctx)(σ:St)(tm:Array Value)(w:World)(M:Nat→Prop)(ν:Nat→Value):Prop where
 mem:Mem c σ.H w M ν
 tmp: ∀i,VR w M σ.H ν (σ.T i) (tm.getD i undef)
theorem U5(w:World)(M:Nat→Prop)(H:Nat→Option bp)(ν:Nat→Value)(v:Value):VR w M H ν (cvA v) v:=by
 unfold cvA
 split<;>simp[VR,V,Ty.isAgg,Rd]
theorem Core.op{c:Ctx}{σ:St}{tm:Array Value}{w:World}{M:Nat→Prop}{ν:Nat→Value}(h:Core c σ tm w M ν)(ds:List Deferred)(x:Operand):
  VR w M σ.H ν (σ.ρ x) (({tmps:=tm,defers:=ds}:Act).eval x):=by
 cases x with
 |tmp t=>exact h.tmp t
 |const v=>exact U5 w M σ.H ν v
 |global g=>simp[St.ρ,VR]
 |func f=>simp[St.ρ,VR,jN,Act.eval]
def aoD(P:Program)(t:TypeId)(τ:Ty):Prop:=
 ∀(w:World) (M:Nat→Prop) (u v:Value) (x y:τ.den) (b:BinOp) (xo yo:Operand),V w M τ u x→V w M τ v y→
  (eqGuard b t xo yo u v).run P w= .ok () w∧(binOp .eql t u v).run P w= .ok (.bool (pn τ x y)) w∧(binOp .neq t u v).run P w= .ok (.bool (!pn τ x y)) w
structure EnvTy(P:Program)(E:Env):Prop where
 ty: ∀t τ,E.ty t=some τ→kX P τ t
 eq: ∀t τ,E.ty t=some τ→τ.comparable=true→τ.isAgg=true→aoD P t τ
end VM
end
section
namespace VM
open Go
variable{P:Program}
theorem AV{o:Oper}{ρ:Operand→Value}{t:TypeId}{i:TypeInfo}{z:Value}(ho:o.op= .alloc t)(hi:P.info? t=some i)(hz:i.zero=some z)(w:World):
  (execOp ρ o).run P w= .ok (.value (.pointer (some ⟨w.heap.size,0,none⟩))) (w.alloc (.cells z.cells t)):=by
 simp[execOp,ho,Instr.alloc,zeroValue,typeInfo,hi,hz,newVar,newRow]
theorem Gr{o:Oper}{ρ:Operand→Value}{t:TypeId}{x:Operand}(ho:o.op= .box t x)(w:World):
  (execOp ρ o).run P w= .ok (.value (.pointer (some ⟨w.heap.size,0,none⟩))) (w.alloc (.cells (ρ x).cells t)):=by
 simp[execOp,ho,Instr.box,newVar,newRow]
theorem rm{τ:Ty}{t:TypeId}(h:kX P τ t)(w:World):(isAgg t).run P w= .ok τ.isAgg w:=by
 unfold kX at h
 cases τ<;>simp only[gA]at h
 ·simp[isAgg,run_underlying h.2,Ty.isAgg]
 ·simp[isAgg,run_underlying h.2,Ty.isAgg]
 ·simp[isAgg,run_underlying h.2,Ty.isAgg]
 ·obtain⟨_,e',h',_⟩:=h;simp[isAgg,run_underlying h',Ty.isAgg]
 ·obtain⟨_,e',h',_⟩:=h;simp[isAgg,run_underlying h',Ty.isAgg]
 ·obtain⟨_,e',f,h',_⟩:=h;simp[isAgg,run_underlying h',Ty.isAgg]
 ·obtain⟨_,e',h',_⟩:=h;simp[isAgg,run_underlying h',Ty.isAgg]
theorem dv{τ:Ty}{t:TypeId}(h:kX P τ t)(w:World):(Go.sizeOf t).run P w= .ok τ.size w:=by
 obtain⟨i,hi,hs,_⟩:=h.base
 simp[Go.sizeOf,typeInfo,hi,hs]
theorem DE{w:World}{M:Nat→Prop}{τ:Ty}{t:TypeId}(h:kX P τ t){b off:Nat}{cs:List Value}{x:τ.den}(ha:At w b off cs)(hr:Rd w M τ cs x):
  (loadVar t ⟨b,off,none⟩).run P w= .ok (cg τ cs) w:=by
 have hl:(loadCells ⟨b,off,none⟩ τ.size).run P w= .ok cs.toArray w:=by
  rw[←hr.length]
  exact run_loadCells_list w _ cs λj v hj=>by rw[show(⟨b,off,none⟩:Addr).add j=⟨b,off+j,none⟩from by unfold Addr.add;split<;>simp_all];exact ha j v hj
 unfold cg
 by_cases Gs:τ.isAgg=true
 ·simp[loadVar,rm h,Gs,dv h,hl]
 ·obtain⟨v,rfl,hc⟩:=hr.scalar (by simpa using Gs)
  have h0:=ha 0 v rfl
  simp only[mA]at h0
  simp[loadVar,rm h,Gs,load,Sem.run,h0]
theorem DF{w:World}{τ:Ty}{t:TypeId}(h:kX P τ t)(Gs:τ.isAgg=true){b off:Nat}{cs:List Value}(ha:At w b off cs)(hl:cs.length=τ.size):
  (loadVar t ⟨b,off,none⟩).run P w= .ok (.agg cs.toArray) w:=by
 have hl:(loadCells ⟨b,off,none⟩ τ.size).run P w= .ok cs.toArray w:=by
  rw[←hl]
  exact run_loadCells_list w _ cs λj v hj=>by rw[show(⟨b,off,none⟩:Addr).add j=⟨b,off+j,none⟩from by unfold Addr.add;split<;>simp_all];exact ha j v hj
 simp[loadVar,rm h,Gs,dv h,hl]
theorem Gt{o:Oper}{ρ:Operand→Value}{t:TypeId}{x:Operand}(ho:o.op= .load t x){w:World}{τ:Ty}(h:kX P τ t)(Gs:τ.isAgg=true){b off:Nat}{cs:List Value}
  (hx:ρ x= .pointer (some ⟨b,off,none⟩)) (ha:At w b off cs) (hl:cs.length=τ.size):
  (execOp ρ o).run P w= .ok (.value (.agg cs.toArray)) w:=by
 simp[execOp,ho,hx,Instr.loadAt,Instr.sureAddr,DF h Gs ha hl]
theorem xg{o:Oper}{ρ:Operand→Value}{t:TypeId}{x:Operand}(ho:o.op= .load t x){w:World}{M:Nat→Prop}{τ:Ty}(h:kX P τ t){b off:Nat}{cs:List Value}{y:τ.den}
  (hx:ρ x= .pointer (some ⟨b,off,none⟩)) (ha:At w b off cs) (hr:Rd w M τ cs y):
  (execOp ρ o).run P w= .ok (.value (cg τ cs)) w:=by
 simp[execOp,ho,hx,Instr.loadAt,Instr.sureAddr,DE h ha hr]
theorem lQ{o:Oper}{ρ:Operand→Value}{t:TypeId}{x y:Operand}(ho:o.op= .store t x y){w:World}{τ:Ty}(h:kX P τ t){b off:Nat}{cur:Array Value}{te:TypeId}
  (hx:ρ x= .pointer (some ⟨b,off,none⟩)) (hg:w.heap[b]? =some (.cells cur te (0,0))) (hs:(ρ y).cells.size=τ.size) (hf:off+τ.size≤cur.size) (h1: ∀v∈(ρ y).cells.toList,v.oneCell'=true):
  (execOp ρ o).run P w= .ok .skip (w.setRow b (cur.toList.take off++(ρ y).cells.toList++cur.toList.drop (off+(ρ y).cells.toList.length)).toArray):=by
 have xh:=run_storeCells_at (P:=P) b off te (ρ y).cells.toList 0 cur w hg (by simp[hs];omega) h1
 simp only[mA]at xh
 simp[execOp,ho,hx,Instr.storeAt,Instr.sureAddr,storeVar,dv h,hs,xh]
theorem uz{o:Oper}{ρ:Operand→Value}{t:TypeId}{x:Operand}{n:Nat}(ho:o.op= .fieldAddr t x n){w:World}{fs:Array Field}{f:Field}{b off:Nat}{υ:Ty}
  (hu:P.underlying t=some (.struct fs)) (hf:fs[n]? =some f) (hl:kX P υ f.type) (hz:υ.size≠0) (hx:ρ x= .pointer (some ⟨b,off,none⟩)):
  ∃a,(execOp ρ o).run P w= .ok (.value a) w∧a= .pointer (some ⟨b,off+f.offset,none⟩):=by
 refine⟨_,?_,rfl⟩
 simp[execOp,ho,hx,Instr.fieldAt,Instr.sureAddr,run_underlying hu,hf,fieldPlace,Addr.add_lit,dv hl,hz]
theorem AW{τ:Ty}{t:TypeId}(h:kX P τ t){w:World}{M:Nat→Prop}{cs:Array Value}{off:Nat}{x:τ.den}(hr:Rd w M τ ((cs.toList.drop off).take τ.size) x):
  (part t cs off).run P w= .ok (cg τ ((cs.toList.drop off).take τ.size)) w:=by
 have hl:=hr.length
 unfold cg
 by_cases Gs:τ.isAgg=true
 ·simp only[part,Sem.run_bind,rm h,Result.andThen_ok,Gs,g8,dv h]
  simp
  rw[bV,dY,bn]at hl
  apply gZ
  simp only[Array.toList_extract,List.extract_eq_take_drop,Ao]
 ·obtain⟨v,hv,hc⟩:=hr.scalar (by simpa using Gs)
  rw[hv]
  have h0:cs[off]? =some v:=by
   have:=fv (λl=>l[0]?) hv
   simp only[mR,mS]at this
   split at this
   ·simpa using this
   ·simp at this
  simp[part,rm h,Gs,h0]
theorem Lw{o:Oper}{ρ:Operand→Value}{t:TypeId}{x:Operand}{n:Nat}(ho:o.op= .field t x n){w:World}{M:Nat→Prop}{fs:Array Field}{f:Field}{cs:Array Value}{υ:Ty}{y:υ.den}
  (hu:P.underlying t=some (.struct fs)) (hf:fs[n]? =some f) (hl:kX P υ f.type) (hx:ρ x= .agg cs) (hr:Rd w M υ ((cs.toList.drop f.offset).take υ.size) y):
  (execOp ρ o).run P w= .ok (.value (cg υ ((cs.toList.drop f.offset).take υ.size))) w:=by
 simp[execOp,ho,hx,Instr.field,run_underlying hu,hf,asAgg,AW hl hr]
theorem mh{o:Oper}{ρ:Operand→Value}{t e:TypeId}{x i:Operand}(ho:o.op= .indexAddr t x i){w:World}{τe:Ty}{b off len cap:Nat}{k:IntKind}{n:Int}
  (hu:P.underlying t=some (.slice e)) (he:kX P τe e) (hx:ρ x= .slice (some ⟨b,off,none⟩) len cap) (hi:ρ i= .int k n) (h0:0≤n) (h1:n<(len:Int)):
  (execOp ρ o).run P w= .ok (.value (.pointer (some ⟨b,off+n.toNat*τe.size,none⟩))) w:=by
 simp[execOp,ho,hx,hi,Instr.indexAt,asIntOf,run_underlying hu,h0,h1,dv he,Addr.add_lit]
theorem tj{o:Oper}{ρ:Operand→Value}{t e:TypeId}{x i:Operand}(ho:o.op= .indexAddr t x i){w:World}{τe:Ty}{b off len:Nat}{k:IntKind}{n:Int}
  (hu:P.underlying t=some (.array len e)) (he:kX P τe e) (hx:ρ x= .pointer (some ⟨b,off,none⟩)) (hi:ρ i= .int k n) (h0:0≤n) (h1:n<(len:Int)):
  (execOp ρ o).run P w= .ok (.value (.pointer (some ⟨b,off+n.toNat*τe.size,none⟩))) w:=by
 simp[execOp,ho,hx,hi,Instr.indexAt,Instr.sureAddr,asIntOf,run_underlying hu,h0,h1,dv he,Addr.add_lit]
theorem Jn{o:Oper}{ρ:Operand→Value}{t e:TypeId}{x i:Operand}(ho:o.op= .index t x i){w:World}{M:Nat→Prop}{τe:Ty}{len:Nat}{k:IntKind}{n:Int}{cs:Array Value}{y:τe.den}
  (hu:P.underlying t=some (.array len e)) (he:kX P τe e) (hx:ρ x= .agg cs) (hi:ρ i= .int k n) (h0:0≤n) (h1:n<(len:Int)) (hr:Rd w M τe ((cs.toList.drop (n.toNat*τe.size)).take τe.size) y):
  (execOp ρ o).run P w= .ok (.value (cg τe ((cs.toList.drop (n.toNat*τe.size)).take τe.size))) w:=by
 simp[execOp,ho,hx,hi,Instr.index,asIntOf,run_underlying hu,h0,h1,dv he,AW he hr]
theorem Gu{o:Oper}{ρ:Operand→Value}{x:Operand}{n:Nat}(ho:o.op= .extract x n){w:World}{us:List Value}{v:Value}(hx:ρ x= .tuple us.toArray)(hv:us[n]? =some v):
  (execOp ρ o).run P w= .ok (.value v) w:=by
 simp[execOp,ho,hx,Instr.extract,hv]
theorem NV{o:Oper}{ρ:Operand→Value}{x y z:Operand}(ho:o.op= .pick x y z){w:World}{b:Bool}(hx:ρ x= .bool b):
  (execOp ρ o).run P w= .ok (.value (if b then ρ y else ρ z)) w:=by
 simp[execOp,ho,hx,asBool]
theorem wc{o:Oper}{ρ:Operand→Value}{x:Operand}(ho:o.op= .nilCheck x){w:World}{a:Addr}(hx:ρ x= .pointer (some a)):
  (execOp ρ o).run P w= .ok (.value (.pointer (some a))) w:=by
 simp[execOp,ho,hx]
theorem EH{o:Oper}{ρ:Operand→Value}{f:FuncId}{first caps:Array Operand}(ho:o.op= .makeFunc (.func f) first caps)(hf:first= #[]){w:World}:
  (execOp ρ o).run P w= .ok (.value (.func (.func f) #[] (caps.map ρ))) w:=by
 subst hf
 simp[execOp,ho,Instr.makeFunc]
theorem Gv{o:Oper}{ρ:Operand→Value}{s d:TypeId}{x:Operand}(ho:o.op= .convert s d x){w:World}{k k':IntKind}{n:Int}(hs:(P.underlying s).isSome=true)(hd:P.underlying d=some (.int k))(hx:ρ x= .int k' n):
  (execOp ρ o).run P w= .ok (.value (.int k (k.wrap n))) w:=by
 obtain⟨ds,hs⟩:=Option.isSome_iff_exists.1 hs
 simp[execOp,ho,hx,convert,run_underlying hs,run_underlying hd,Conv.intToInt]
theorem xi{o:Oper}{ρ:Operand→Value}{u:UnOp}{t:TypeId}{x:Operand}(ho:o.op= .unOp u t x){w:World}{v:Value}(h:(Op.unary u (ρ x)).run P w= .ok v w):
  (execOp ρ o).run P w= .ok (.value v) w:=by
 simp[execOp,ho,h]
theorem qI{o:Oper}{ρ:Operand→Value}{b:BinOp}{t t':TypeId}{x y:Operand}(ho:o.op= .binOp b t x y t'){w:World}{v:Value}
  (hg:(eqGuard b t x y (ρ x) (ρ y)).run P w= .ok () w) (h:(binOp b t (ρ x) (ρ y)).run P w= .ok v w):
  (execOp ρ o).run P w= .ok (.value v) w:=by
 simp[execOp,ho,hg,h]
theorem qk{b:BinOp}{t:TypeId}{x y:Operand}{k k':IntKind}{m n:Int}(w:World):(eqGuard b t x y (.int k m) (.int k' n)).run P w= .ok () w:=by
 cases b<;>simp[eqGuard]
theorem Cn{b:BinOp}{t:TypeId}{x y:Operand}{m n:Bool}(w:World):(eqGuard b t x y (.bool m) (.bool n)).run P w= .ok () w:=by
 cases b<;>simp[eqGuard]
theorem EI{b:BinOp}{t:TypeId}{x y:Operand}{m n:ByteArray}(w:World):(eqGuard b t x y (.string m) (.string n)).run P w= .ok () w:=by
 cases b<;>simp[eqGuard]
theorem nW{o:Oper}{ρ:Operand→Value}{b:Builtin}{args:Array Operand}{ts:Array TypeId}(ho:o.op= .call {callee:= .builtin b,args,argTypes:=ts}){w:World}:
  ∃cs,(execOp ρ o).run P w=(builtin b ts o.type cs (args.map ρ)).run P w:=by
 refine⟨args.map fun| .const _=>true|_=>false,?_⟩
 simp[execOp,ho,resolve,invoke]
 rfl
end VM
end
