/- A part of the proof of BookTurned of layer 18: a machine that reads a function of the program as an equation between values. -/
import Derived.Test.YthkjjlcblhbifaaGreatVm0
import Derived.WalkLawsBesides
set_option linter.all false
open List renaming getD→γ
section
namespace VM
open Go
def LK(P:Program)(τ:Ty)(t:TypeId):Prop:=
 ∃i,P.info? t=some i∧i.size=τ.size∧i.zero=some (cr τ τ.cL)∧i.bytes≤2048
def gI(P:Program):Ty→TypeId ⊕ (Array Field×Nat×Nat)→Prop
 | .int k,.inl t=>LK P (.int k) t∧P.underlying t=some (.int k)
 | .bool,.inl t=>LK P .bool t∧P.underlying t=some .bool
 | .str,.inl t=>LK P .str t∧P.underlying t=some .string
 | .slice e,.inl t=>LK P (.slice e) t∧ ∃e',P.underlying t=some (.slice e')∧gI P e (.inl e')
 | .arr n e,.inl t=>LK P (.arr n e) t∧ ∃e',P.underlying t=some (.array n e')∧gI P e (.inl e')
 | .unit,.inl t=>LK P .unit t∧ ∃fs,P.underlying t=some (.struct fs)∧fs.size=0
 | .unit,.inr (fs,n,_)=>fs.size=n
 | .pair a b,.inl t=>LK P (.pair a b) t∧ ∃fs f,P.underlying t=some (.struct fs)∧fs[0]? =some f∧f.offset=0∧gI P a (.inl f.type)∧gI P b (.inr (fs,1,a.size))
 | .pair a b,.inr (fs,n,off)=> ∃f,fs[n]? =some f∧f.offset=off∧gI P a (.inl f.type)∧gI P b (.inr (fs,n+1,off+a.size))
 |_,.inr _=>False
def kX(P:Program)(τ:Ty)(t:TypeId):Prop:=gI P τ (.inl t)
theorem kX.base{P:Program}{τ:Ty}{t:TypeId}(h:kX P τ t):LK P τ t:=by
 unfold kX at h;cases τ<;>simp only[gI]at h<;>exact h.1
theorem kX.int{P:Program}{k:IntKind}{t:TypeId}(h:kX P (.int k) t):P.underlying t=some (.int k):=by simp only[kX,gI]at h;exact h.2
theorem kX.bool{P:Program}{t:TypeId}(h:kX P .bool t):P.underlying t=some .bool:=by simp only[kX,gI]at h;exact h.2
theorem kX.str{P:Program}{t:TypeId}(h:kX P .str t):P.underlying t=some .string:=by simp only[kX,gI]at h;exact h.2
theorem kX.slice{P:Program}{e:Ty}{t:TypeId}(h:kX P (.slice e) t): ∃e',P.underlying t=some (.slice e')∧kX P e e':=by simp only[kX,gI]at h;exact h.2
theorem kX.arr{P:Program}{n:Nat}{e:Ty}{t:TypeId}(h:kX P (.arr n e) t): ∃e',P.underlying t=some (.array n e')∧kX P e e':=by simp only[kX,gI]at h;exact h.2
theorem kX.isSome{P:Program}{τ:Ty}{t:TypeId}(h:kX P τ t):(P.underlying t).isSome=true:=by
 unfold kX at h
 cases τ<;>simp only[gI]at h
 ·simp[h.2]
 ·simp[h.2]
 ·simp[h.2]
 ·obtain⟨_,e',h',_⟩:=h;simp[h']
 ·obtain⟨_,e',h',_⟩:=h;simp[h']
 ·obtain⟨_,e',f,h',_⟩:=h;simp[h']
 ·obtain⟨_,e',h',_⟩:=h;simp[h']
inductive DR:(τ:Ty)→τ.den→Nat→(υ:Ty)→υ.den→Nat→Prop where
 |here {a b:Ty} (x:(Ty.pair a b).den):DR (.pair a b) x 0 a x.1 0
 |there {a b:Ty} (x:(Ty.pair a b).den) {n:Nat} {υ:Ty} {y:υ.den} {o:Nat} (h:DR b x.2 n υ y o):DR (.pair a b) x (n+1) υ y (a.size+o)
theorem p4{α:Type}{r:α}: ∀{τ:Ty} {x:τ.den} {n:Nat} {k:(υ:Ty)→υ.den→Option α},vv τ x n k=some r→ ∃υ y o,DR τ x n υ y o∧k υ y=some r
 | .pair a b,x,0,k,h=>⟨a,x.1,0,.here x,h⟩
 | .pair a b,x,n+1,k,h=>by
  obtain⟨υ,y,o,hf,hk⟩:=p4 (τ:=b) (x:=x.2) (n:=n) (k:=k) h
  exact⟨υ,y,_,.there x hf,hk⟩
 | .int _,_,_,_,h| .bool,_,_,_,h| .str,_,_,_,h| .slice _,_,_,_,h| .unit,_,_,_,h| .arr _ _,_,_,_,h=>by simp[vv]at h
theorem DR.bound{τ:Ty}{x:τ.den}{n:Nat}{υ:Ty}{y:υ.den}{o:Nat}(h:DR τ x n υ y o):o+υ.size≤τ.size:=by
 induction h with
 |here x=>simp[Ty.size]
 |there x h ih=>simp only[Ty.size];omega
theorem DR.rd{w:World}{M:Nat→Prop}{τ:Ty}{x:τ.den}{n:Nat}{υ:Ty}{y:υ.den}{o:Nat}(h:DR τ x n υ y o):
  ∀{cs:List Value},Rd w M τ cs x→Rd w M υ ((cs.drop o).take υ.size) y:=by
 induction h with
 |here x=>
  intro cs hr
  simp only[Rd]at hr
  obtain⟨c1,c2,rfl,h1,_⟩:=hr
  rw[cM,xk h1.length];exact h1
 |there x h ih=>
  intro cs hr
  simp only[Rd]at hr
  obtain⟨c1,c2,rfl,h1,h2⟩:=hr
  rw[←iJ,mz h1.length]
  exact ih h2
theorem gI.gM{P:Program}{τ:Ty}{x:τ.den}{m:Nat}{υ:Ty}{y:υ.den}{o:Nat}(h:DR τ x m υ y o):
  ∀{fs:Array Field} {n off:Nat},gI P τ (.inr (fs,n,off))→ ∃f,fs[n+m]? =some f∧f.offset=off+o∧kX P υ f.type:=by
 induction h with
 |here x=>
  intro fs n off hl
  simp only[gI]at hl
  obtain⟨f,hf,ho,ha,_⟩:=hl
  exact⟨f,hf,by simpa using ho,ha⟩
 |there x h ih=>
  intro fs n off hl
  simp only[gI]at hl
  obtain⟨f,hf,ho,_,hb⟩:=hl
  obtain⟨f',zP,ho',Jj⟩:=ih hb
  exact⟨f',by rw[←zP];congr 1;omega,ω,Jj⟩
theorem kX.gM{P:Program}{τ:Ty}{t:TypeId}{x:τ.den}{m:Nat}{υ:Ty}{y:υ.den}{o:Nat}(hl:kX P τ t)(h:DR τ x m υ y o):
  ∃fs f,P.underlying t=some (.struct fs)∧fs[m]? =some f∧f.offset=o∧kX P υ f.type:=by
 unfold kX at hl
 cases h with
 |here x=>
  simp only[gI]at hl
  obtain⟨_,fs,f,hu,hf,ho,ha,_⟩:=hl
  exact⟨fs,f,hu,hf,ho,ha⟩
 |there x h=>
  simp only[gI]at hl
  obtain⟨_,fs,f,hu,hf,ho,_,hb⟩:=hl
  obtain⟨f',zP,ho',Jj⟩:=gI.gM h hb
  exact⟨fs,f',hu,by rw[←zP];congr 1;omega,ω,Jj⟩
inductive LM:List Step→(τ:Ty)→τ.den→(υ:Ty)→υ.den→Nat→Prop where
 |nil {τ:Ty} (x:τ.den):LM [] τ x τ x 0
 |gM {p:List Step} {τ υ σ:Ty} {x:τ.den} {n o:Nat} {y:υ.den} {z:σ.den} {q:Nat} (h:DR τ x n υ y o) (r:LM p υ y σ z q):LM (.gM n::p) τ x σ z (o+q)
 |idx {p:List Step} {n:Nat} {e σ:Ty} {x:(Ty.arr n e).den} {i:Nat} {z:σ.den} {q:Nat} (r:LM p e (γ x i e.zero) σ z q):LM (.idx i::p) (.arr n e) x σ z (i*e.size+q)
theorem kY{α:Type}{r:α}: ∀{p:List Step} {τ:Ty} {x:τ.den} {k:(υ:Ty)→υ.den→Option α},Bb p τ x k=some r→ ∃υ y o,LM p τ x υ y o∧k υ y=some r
 |[],τ,x,k,h=>⟨τ,x,0,.nil x,h⟩
 | .gM n::p,τ,x,k,h=>by
  obtain⟨υ,y,o,hf,h'⟩:=p4 (h:vv τ x n _=some r)
  obtain⟨σ,z,q,hp,hk⟩:=kY h'
  exact⟨σ,z,_,.gM hf hp,hk⟩
 | .idx i::p,τ,x,k,h=>by
  cases τ with
  |arr n e=>
   obtain⟨σ,z,q,hp,hk⟩:=kY (p:=p) (τ:=e) (x:=γ x i e.zero) (k:=k) h
   exact⟨σ,z,_,.idx hp,hk⟩
  |_=>simp[Bb,aj5]at h
def tb:Ty→Nat→Ty
 | .pair a b,n=>match n with|0=>a|n+1=>tb b n
 |τ,_=>τ
def gy:Ty→Nat→Nat
 | .pair a b,n=>match n with|0=>0|n+1=>a.size+gy b n
 |_,_=>0
def elT:Ty→Ty
 | .arr _ e=>e
 |τ=>τ
def JB:List Step→Ty→Ty
 |[],τ=>τ
 | .gM n::p,τ=>JB p (tb τ n)
 | .idx _::p,τ=>JB p (elT τ)
def cF:List Step→Ty→Nat
 |[],_=>0
 | .gM n::p,τ=>gy τ n+cF p (tb τ n)
 | .idx i::p,τ=>i*(elT τ).size+cF p (elT τ)
def zo:List Step→Ty→Prop
 |[],_=>True
 | .gM n::p,τ=>zo p (tb τ n)
 | .idx i::p,τ=>(∃n e,τ= .arr n e∧i<n)∧zo p (elT τ)
theorem DR.eq{τ:Ty}{x:τ.den}{n:Nat}{υ:Ty}{y:υ.den}{o:Nat}(h:DR τ x n υ y o):υ=tb τ n∧o=gy τ n:=by
 induction h with
 |here x=>exact⟨rfl,rfl⟩
 |there x h ih=>obtain⟨rfl,rfl⟩:=ih;exact⟨rfl,rfl⟩
theorem LM.eq{p:List Step}{τ:Ty}{x:τ.den}{υ:Ty}{y:υ.den}{o:Nat}(h:LM p τ x υ y o):υ=JB p τ∧o=cF p τ:=by
 induction h with
 |nil x=>exact⟨rfl,rfl⟩
 |gM h r ih=>
  obtain⟨h1,h2⟩:=h.eq
  obtain⟨h3,h4⟩:=ih
  subst h1 h2 h3 h4
  exact⟨rfl,rfl⟩
 |idx r ih=>
  obtain⟨h3,h4⟩:=ih
  subst h3 h4
  exact⟨rfl,rfl⟩
theorem aj9(p q:List Step): ∀τ,JB (p++q) τ=JB q (JB p τ):=by
 induction p with
 |nil=>intro τ;rfl
 |cons s p ih=>intro τ;cases s<;>simp[JB,ih]
theorem tB(p q:List Step): ∀τ,cF (p++q) τ=cF p τ+cF q (JB p τ):=by
 induction p with
 |nil=>intro τ;simp[cF,JB]
 |cons s p ih=>intro τ;cases s<;>simp[cF,JB,ih,pW]
theorem tC(p q:List Step): ∀τ,zo (p++q) τ↔zo p τ∧zo q (JB p τ):=by
 induction p with
 |nil=>intro τ;simp[zo,JB]
 |cons s p ih=>intro τ;cases s<;>simp[zo,JB,ih,and_assoc]
theorem lM{α:Type}(l:List α)(i:Nat)(d:α)(h:i<l.length):l.getD i d=l[i]:=by simp[γ,bm h]
theorem Bd{α:Type}(n:Nat): ∀(l:List (List α)) (i:Nat) (h:i<l.length),(∀j (hj:j<l.length),l[j].length=n)→(l.flatten.drop (i*n)).take n=l[i]
 |a::l,0,_,hn=>by
  have:=hn 0 (by simp)
  simp only[Gl]at this
  simp[←this]
 |a::l,i+1,h,hn=>by
  have h0:=hn 0 (by simp)
  simp only[Gl]at h0
  rw[AU,eJ,kT,Nat.add_comm (i*n) n,←iJ,mz h0]
  exact Bd n l i (by simpa using h) (λj hj=>hn (j+1) (by simp;omega))
theorem Rd.idx{w:World}{M:Nat→Prop}{n:Nat}{e:Ty}{cs:List Value}{x:(Ty.arr n e).den}(h:Rd w M (.arr n e) cs x){i:Nat}(hi:i<n):
  Rd w M e ((cs.drop (i*e.size)).take e.size) (γ x i e.zero):=by
 simp only[Rd]at h
 obtain⟨hn,Vt,hc,rfl,hr⟩:=h
 rw[Bd e.size Vt i ω (λj hj=>(hr j ω hj).length),lM x i e.zero ω]
 exact hr i ω ω
theorem LM.bound{p:List Step}{τ:Ty}{x:τ.den}{υ:Ty}{y:υ.den}{o:Nat}(h:LM p τ x υ y o):zo p τ→o+υ.size≤τ.size:=by
 induction h with
 |nil x=>intro _;simp
 |gM h r ih=>
  intro hi
  obtain⟨h1,h2⟩:=h.eq
  subst h1
  have:=ih hi
  have:=h.bound
  omega
 | @idx p n e σ x i z q r ih=>
  intro hi
  obtain⟨⟨n',e',he,ke⟩,oj⟩:=hi
  cases he
  have:=ih oj
  have h2:(i+1)*e.size≤n*e.size:=kB _ ke
  rw[eJ]at h2
  simp only[Ty.size]
  omega
theorem LM.rd{w:World}{M:Nat→Prop}{p:List Step}{τ:Ty}{x:τ.den}{υ:Ty}{y:υ.den}{o:Nat}(h:LM p τ x υ y o):
  zo p τ→ ∀{cs:List Value},Rd w M τ cs x→Rd w M υ ((cs.drop o).take υ.size) y:=by
 induction h with
 |nil x=>intro _ cs hr;rw[cM,iG (by rw[hr.length];exact aH _)];exact hr
 |gM h r ih=>
  intro hi cs hr
  obtain⟨h1,h2⟩:=h.eq
  subst h1
  have:=ih hi (h.rd hr)
  have hb:=LM.bound r hi
  rw[rT,iJ,rU,iu ω]at this
  exact this
 | @idx p n e σ x i z q r ih=>
  intro hi cs hr
  obtain⟨⟨n',e',he,ke⟩,oj⟩:=hi
  cases he
  have:=ih oj (hr.idx ke)
  have hb:=LM.bound r oj
  rw[rT,iJ,rU,iu ω]at this
  exact this
def eQ{α:Type}(cs:List α)(o:Nat)(new:List α):List α:=cs.take o++new++cs.drop (o+new.length)
theorem Be{α:Type}{a b:List α}{o:Nat}{new:List α}(h:o+new.length≤a.length):eQ (a++b) o new=eQ a o new++b:=by
 unfold eQ
 rw[yI ω,xc ω]
 simp only[bF]
theorem yL{α:Type}{a b:List α}{o:Nat}{new:List α}:eQ (a++b) (a.length+o) new=a++eQ b o new:=by
 unfold eQ
 rw[List.take_append,iG ω,AL,pW,List.drop_append,jM ω,AL]
 simp
theorem eM{α:Type}{a:List α}{o:Nat}{new:List α}(h:o+new.length≤a.length):(eQ a o new).length=a.length:=by
 unfold eQ;simp;omega
theorem FE{α:Type}{a:List α}{o i n:Nat}{new:List α}(h:i+n≤o∨o+new.length≤i)(hl:o+new.length≤a.length):((eQ a o new).drop i).take n=(a.drop i).take n:=by
 apply AV
 intro j
 simp only[mX,mY]
 split
 ·rename_i hj
  unfold eQ
  rcases h with h|h
  ·rw[bF,tv (by simp;omega),mX,ak ω]
  ·rw[pC (by simp;omega)]
   simp only[aS,cj,iu (show o≤a.length by omega),mY]
   congr 1;omega
 ·rfl
theorem aka{α:Type}{a:List α}{o:Nat}{new:List α}(hl:o+new.length≤a.length):((eQ a o new).drop o).take new.length=new:=by
 unfold eQ
 rw[bF,mz (by simp;omega),xk rfl]
theorem xB{α:Type}{l:List α}{o:Nat}{u:α}(h:l[o]? =some u):eQ l o [u]=l:=by
 obtain⟨eU,rfl⟩:=vp.1 h
 unfold eQ
 simp
theorem yM{α:Type}{l:List α}{o:Nat}{u:α}(h:o<l.length):(eQ l o [u])[o]? =some u:=by
 unfold eQ
 rw[bF,pC (by simp;omega)]
 simp[iu (Nat.le_of_lt h)]
theorem kZ{τ:Ty}: ∀{n:Nat} {a:Ty},zj τ n=some a→ ∀x:τ.den,∃y o,DR τ x n a y o:=by
 induction τ with
 |pair a b _ Yf=>
  intro n c h x
  cases n with
  |zero=>cases h;exact⟨_,_,.here x⟩
  |succ n=>
   obtain⟨y,o,hf⟩:=Yf (n:=n) (a:=c) h x.2
   exact⟨y,_,.there x hf⟩
 |_=>intro n c h;simp[zj]at h
theorem uP: ∀{p:List Step} {τ υ:Ty},fA p τ υ=true→ ∀x:τ.den,∃y o,LM p τ x υ y o
 |[],τ,υ,h,x=>by
  have h:=bD h
  subst h
  exact⟨x,0,.nil x⟩
 | .gM n::p,τ,υ,h,x=>by
  unfold fA at h
  split at h
  ·rename_i a ha
   obtain⟨y,o,hf⟩:=kZ ha x
   obtain⟨z,q,hp⟩:=uP h y
   exact⟨z,_,.gM hf hp⟩
  ·cases h
 | .idx _::_,_,_,h,_=>by simp[fA]at h
theorem lN: ∀{p:List Step} {τ υ:Ty},fA p τ υ=true→zo p τ∧JB p τ=υ
 |[],τ,υ,h=>⟨trivial,bD h⟩
 | .gM n::p,τ,υ,h=>by
  have h0:=h
  unfold fA at h
  split at h
  ·rename_i a ha
   obtain⟨y,o,hf⟩:=kZ ha τ.zero
   obtain⟨h1,h2⟩:=lN h
   have:=hf.eq.1
   subst this
   exact⟨h1,h2⟩
  ·cases h
 | .idx _::_,_,_,h=>by simp[fA]at h
theorem zQ: ∀{p q:List Step},Jx p q=true→p=q
 |[],[],_=>rfl
 | .gM a::p,.gM b::q,h=>by
  simp only[Jx,bQ]at h
  rw[fF h.1,zQ h.2]
 |[],_::_,h| .gM _::_,[],h| .idx _::_,_,h| .gM _::_,.idx _::_,h=>by simp[Jx]at h
theorem DR.apart{τ:Ty}{x:τ.den}{n:Nat}{υ:Ty}{y:υ.den}{o:Nat}(h:DR τ x n υ y o): ∀{x':τ.den} {n':Nat} {υ':Ty} {y':υ'.den} {o':Nat},DR τ x' n' υ' y' o'→n≠n'→o+υ.size≤o'∨o'+υ'.size≤o:=by
 induction h with
 |here x=>
  intro x' n' υ' y' o' h' kN
  cases h' with
  |here=>exact absurd rfl kN
  |there _ h'=>left;omega
 |there x h ih=>
  intro x' n' υ' y' o' h' kN
  cases h' with
  |here=>right;omega
  |there _ h'=>rcases ih h' (λe=>kN (by rw[e]))with h1|h1<;>omega
theorem LM.apart{p:List Step}{τ:Ty}{x:τ.den}{υ:Ty}{y:υ.den}{o:Nat}(h:LM p τ x υ y o):zo p τ→ ∀{q:List Step} {e:Ty},fA q τ (.slice e)=true→zi p q=false→cF q τ<o∨o+υ.size≤cF q τ:=by
 induction h with
 |nil x=>intro _ q e _ h;simp[zi]at h
 | @gM p τ υ σ x n o y z q hf r ih=>
  intro hi q' e hq hp
  obtain⟨h1,h2⟩:=hf.eq
  subst h1 h2
  cases q' with
  |nil=>
   have:=bD hq
   subst this
   cases hf
  |cons s q'=>
   cases s with
   |idx i=>simp[fA]at hq
   |gM m=>
    unfold fA at hq
    split at hq
    ·rename_i a ha
     obtain⟨y',o',zP⟩:=kZ ha x
     obtain⟨h3,h4⟩:=zP.eq
     subst h3 h4
     have hb:=r.bound hi
     obtain⟨h5,h6⟩:=lN hq
     obtain⟨z',o2,RZ⟩:=uP hq y'
     have fb:=RZ.bound h5
     have ho2:=RZ.eq.2
     subst ho2
     simp only[cF]
     by_cases hnm:n=m
     ·subst hnm
      have Jk:zi p q'=false:=by
       simp only[zi,Bool.and_eq_false_iff]at hp
       rcases hp with hp|hp
       ·rw[pY]at hp;cases hp
       ·exact hp
      rcases ih hi hq Jk with h7|h7<;>omega
     ·rcases hf.apart zP hnm with h7|h7
      ·right;omega
      ·left
       have:1≤(Ty.slice e).size:=aH _
       omega
    ·cases hq
 | @idx p n e' σ x i z q r ih=>
  intro hi q' e hq hp
  cases q' with
  |nil=>have:=bD hq;cases this
  |cons s q'=>
   cases s with
   |idx i=>simp[fA]at hq
   |gM m=>simp[fA,zj]at hq
def fD:Value→Option Nat
 | .pointer (some a)=>some a.block
 | .slice (some a) _ cap=>if cap=0 then none else some a.block
 |_=>none
def br.mut:br→Prop
 | .obj _ _| .own _ _| .gk _ _ _ _=>True
 |_=>False
def ER(w:World)(M:Nat→Prop)(v:Value):br→Prop
 | .obj τ x=> ∃b cs t,v= .pointer (some ⟨b,0,none⟩)∧w.heap[b]? =some (.cells cs t (0,0))∧M b∧Rd w M τ cs.toList x
 | .gk τ x p _=> ∃b cs t kf u,v= .pointer (some ⟨b,0,none⟩)∧w.heap[b]? =some (.cells cs t (0,0))∧M b∧Rd w M τ kf x∧cs.toList=eQ kf (cF p τ) [u]∧u.oneCell'=true∧ ∃e,fA p τ (.slice e)=true
 | .own e l=>(l=[]∧ ∃a,v= .slice a 0 0)∨
  ∃b cs t cap,v= .slice (some ⟨b,0,none⟩) l.length cap∧w.heap[b]? =some (.cells cs t (0,0))∧M b∧0<cap∧l.length≤cap∧cap≤maxLen∧cs.size=cap*e.size∧
   ∀i (h:i<l.length),Rd w M e ((cs.toList.drop (i*e.size)).take e.size) l[i]
 | .pG e l=>Rd w M (.slice e) [v] l∧((l=[]∧ ∃a n c,v= .slice a n c)∨ ∃b n c,v= .slice (some ⟨b,0,none⟩) n c)
 | .gone=>True
def AR(v:Value)(p:List Step)(u:Value):br→Prop
 | .obj τ _| .gk τ _ _ _=>zo p τ∧ ∃b,v= .pointer (some ⟨b,0,none⟩)∧u= .pointer (some ⟨b,cF p τ,none⟩)
 | .own e l| .pG e l=> ∃i q,p= .idx i::q∧i<l.length∧zo q e∧ ∃b n c,v= .slice (some ⟨b,0,none⟩) n c∧u= .pointer (some ⟨b,i*e.size+cF q e,none⟩)
 | .gone=> ∃a,u= .pointer (some a)
def vz(τ:Ty)(n:Nat):Bool:=match zj τ n with
 |some (.slice _)=>true
 |_=>false
mutual
def VR(w:World)(M:Nat→Prop)(H:Nat→Option br)(ν:Nat→Value):bG→Value→Prop
 | .any,_=>True
 | .Yd,v=>v=undef
 | .val τ x,v=>V w M τ v x
 | .LG τ x n,v=>V w M τ v x∧ ∃cs a,v= .agg cs∧cs.toList[gy τ n]? =some (.slice a 0 0)
 | .sub id e lo,v=>H id≠none∧ ∃a n cap,ν id= .slice a n cap∧v= .slice (if cap=lo then a else a.map (·.add (lo*e.size))) (n-lo) (cap-lo)
 | .Jy τ x n j,v=> ∃cs kf,v= .agg cs∧Rd w M τ kf x∧cs.toList=eQ kf (gy τ n) [ν j]∧H j≠none∧vz τ n=true
 | .emp,v=> ∃a,v= .slice a 0 0
 | .ref id,v=>H id≠none∧v=ν id
 | .jf id p,v=> ∃e,H id=some e∧AR (ν id) p v e
 | .sd τ x,v=> ∃b off,v= .pointer (some ⟨b,off,none⟩)∧b<w.heap.size∧ ¬M b∧ ∃cs,At w b off cs∧Rd w M τ cs x
 | .tup vs,v=> ∃us:List Value,v= .tuple us.toArray∧jP w M H ν vs us
 | .N7 f caps,v=> ∃cs:List Value,v= .func (.func f) #[] cs.toArray∧jP w M H ν caps cs
def jP(w:World)(M:Nat→Prop)(H:Nat→Option br)(ν:Nat→Value):List bG→List Value→Prop
 |[],[]=>True
 |a::as,v::vs=>VR w M H ν a v∧jP w M H ν as vs
 |_,_=>False
end
def br.lO:br→br→Prop
 | .obj τ _,.obj υ _| .obj τ _,.gk υ _ _ _| .gk τ _ _ _,.obj υ _| .gk τ _ _ _,.gk υ _ _ _=>τ=υ
 | .own e l,.own f k| .own e l,.pG f k| .pG e l,.pG f k=>e=f∧l.length=k.length
 |_,.gone=>True
 |_,_=>False
structure ue(H:Nat→Option br)(ν:Nat→Value)(H':Nat→Option br)(ν':Nat→Value):Prop where
 jQ: ∀i e,H i=some e→ ∃e',H' i=some e'∧e.lO e'
 head: ∀i,H i≠none→ν' i=ν i
theorem AR.ptr{v:Value}{p:List Step}{u:Value}{e:br}(h:AR v p u e): ∃a,u= .pointer (some a):=by
 cases e<;>simp only[AR]at h
 ·obtain⟨_,b,_,h⟩:=h;exact⟨_,h⟩
 ·obtain⟨_,b,_,h⟩:=h;exact⟨_,h⟩
 ·obtain⟨i,q,_,_,_,b,n,c,_,h⟩:=h;exact⟨_,h⟩
 ·obtain⟨i,q,_,_,_,b,n,c,_,h⟩:=h;exact⟨_,h⟩
 ·exact h
theorem AR.lO{v:Value}{p:List Step}{u:Value}{e e':br}(h:AR v p u e)(l:e.lO e'):AR v p u e':=by
 have hp:=h.ptr
 cases e<;>cases e'<;>simp only[br.lO]at l<;>simp only[AR]at h ⊢ <;>try exact hp
 ·subst l;exact h
 ·subst l;exact h
 ·subst l;exact h
 ·subst l;exact h
 ·obtain⟨rfl,hl⟩:=l;obtain⟨i,q,hp,hi,r⟩:=h;exact⟨i,q,hp,ω,r⟩
 ·obtain⟨rfl,hl⟩:=l;obtain⟨i,q,hp,hi,r⟩:=h;exact⟨i,q,hp,ω,r⟩
 ·obtain⟨rfl,hl⟩:=l;obtain⟨i,q,hp,hi,r⟩:=h;exact⟨i,q,hp,ω,r⟩
theorem br.lO.refl(e:br):e.lO e:=by cases e<;>simp[br.lO]
theorem ue.refl(H:Nat→Option br)(ν:Nat→Value):ue H ν H ν:=⟨λ_ e h=>⟨e,h,.refl e⟩,λ_ _=>rfl⟩
mutual
theorem VR.ch{w w':World}{M M':Nat→Prop}{H H':Nat→Option br}{ν ν':Nat→Value}(k:fP w M w' M')(g:ue H ν H' ν'):
  ∀{a:bG} {v:Value},VR w M H ν a v→VR w' M' H' ν' a v
 | .any,_,_=>by simp[VR]
 | .Yd,_,h=>by simpa [VR]using h
 | .val τ x,v,h=>by simp only[VR]at h ⊢;exact h.ch k
 | .LG τ x n,v,h=>by simp only[VR]at h ⊢;exact⟨h.1.ch k,h.2⟩
 | .sub id e lo,v,h=>by
  simp only[VR]at h ⊢
  obtain⟨h1,h2⟩:=h
  obtain⟨e,he⟩:=xd.1 h1
  obtain⟨e',uw,_⟩:=g.jQ id e he
  exact⟨by simp[uw],by rw[g.head id h1];exact h2⟩
 | .Jy τ x n j,v,h=>by
  simp only[VR]at h ⊢
  obtain⟨cs,kf,h1,h2,h3,h4,h5⟩:=h
  obtain⟨e,he⟩:=xd.1 h4
  obtain⟨e',uw,_⟩:=g.jQ j e he
  exact⟨cs,kf,h1,h2.ch k,by rw[g.head j h4];exact h3,by simp[uw],h5⟩
 | .emp,_,h=>by simpa [VR]using h
 | .ref id,_,h=>by
  simp only[VR]at h ⊢
  obtain⟨h1,h2⟩:=h
  obtain⟨e,he⟩:=xd.1 h1
  obtain⟨e',uw,_⟩:=g.jQ id e he
  exact⟨by simp[uw],by rw[g.head id h1];exact h2⟩
 | .jf id p,_,h=>by
  simp only[VR]at h ⊢
  obtain⟨e,he,ha⟩:=h
  obtain⟨e',uw,hl⟩:=g.jQ id e he
  exact⟨e',uw,by rw[g.head id (by simp[he])];exact ha.lO hl⟩
 | .sd τ x,_,h=>by
  simp only[VR]at h ⊢
  obtain⟨b,off,rfl,hb,hm,cs,ha,hr⟩:=h
  exact⟨b,off,rfl,n6 hb k.size,λh'=>hm (k.less b hb h'),cs,ha.ch (k.block b hb hm),hr.ch k⟩
 | .tup vs,_,h=>by
  simp only[VR]at h ⊢
  obtain⟨us,rfl,h⟩:=h
  exact⟨us,rfl,jP.ch k g h⟩
 | .N7 f caps,_,h=>by
  simp only[VR]at h ⊢
  obtain⟨us,rfl,h⟩:=h
  exact⟨us,rfl,jP.ch k g h⟩
theorem jP.ch{w w':World}{M M':Nat→Prop}{H H':Nat→Option br}{ν ν':Nat→Value}(k:fP w M w' M')(g:ue H ν H' ν'):
  ∀{as:List bG} {vs:List Value},jP w M H ν as vs→jP w' M' H' ν' as vs
 |[],[],_=>by simp[jP]
 |a::as,v::vs,h=>by simp only[jP]at h ⊢;exact⟨VR.ch k g h.1,jP.ch k g h.2⟩
 |[],_::_,h=>by simp[jP]at h
 |_::_,[],h=>by simp[jP]at h
end
end VM
end
section
namespace VM
open Go
structure Ctx where
 B:Nat
 w0:World
 M0:Nat→Prop
 may:Nat→Prop
 arg:Nat→Value
structure Mem(c:Ctx)(H:Nat→Option br)(w:World)(M:Nat→Prop)(ν:Nat→Value):Prop where
 jQ: ∀i e,H i=some e→ER w M (ν i) e
 Bf: ∀i j e e' b,i≠j→H i=some e→e.mut→H j=some e'→e'.mut→fD (ν i)=some b→fD (ν j)≠some b
 new: ∀i e b,H i=some e→e.mut→fD (ν i)=some b→c.B≤b∨c.may b
 oS: ∀i e l b,H i=some (.own e l)→fD (ν i)=some b→ ¬c.M0 b
 gk: ∀i τ x p j,H i=some (.gk τ x p j)→H j≠none∧ ∃b,ν i= .pointer (some ⟨b,0,none⟩)∧w.cell? ⟨b,cF p τ,none⟩=some (ν j)
 sub: ∀b,c.M0 b→M b
 GI: ∀b,M b→b<w.heap.size
 frame: ∀b,b<c.B→ ¬c.may b→w.heap[b]? =c.w0.heap[b]?
 size:c.B≤w.heap.size
 wT:(∀b,c.M0 b→b<c.B)∧ ∀b,c.may b→ ¬c.M0 b
 os:w.os=c.w0.os
 tape:w.tape=c.w0.tape
 output:w.output=c.w0.output
structure Tr(c:Ctx)(H:Nat→Option br)(w:World)(M:Nat→Prop)(ν:Nat→Value)(H':Nat→Option br)(w':World)(M':Nat→Prop)(ν':Nat→Value):Prop where
 mem:Mem c H' w' M' ν'
 ch:fP w M w' M'
 goes:ue H ν H' ν'
theorem br.lO.trans{a b d:br}(h:a.lO b)(k:b.lO d):a.lO d:=by
 cases a<;>cases b<;>cases d<;>simp only[br.lO]at h k ⊢ <;>first
  |exact h.trans k
  |exact⟨h.1.trans k.1,h.2.trans k.2⟩
theorem ue.trans{H H' H'':Nat→Option br}{ν ν' ν'':Nat→Value}(h:ue H ν H' ν')(k:ue H' ν' H'' ν''):ue H ν H'' ν'':=by
 refine⟨λi e he=> ?_,λi hi=> ?_⟩
 ·obtain⟨e',uw,l⟩:=h.jQ i e he
  obtain⟨e'',avf,l'⟩:=k.jQ i e' uw
  exact⟨e'',avf,l.trans l'⟩
 ·obtain⟨e,he⟩:=xd.1 hi
  obtain⟨e',uw,_⟩:=h.jQ i e he
  rw[k.head i (by simp[uw]),h.head i hi]
theorem Tr.trans{c:Ctx}{H H' H'':Nat→Option br}{w w' w'':World}{M M' Kg:Nat→Prop}{ν ν' ν'':Nat→Value}
  (h:Tr c H w M ν H' w' M' ν') (k:Tr c H' w' M' ν' H'' w'' Kg ν''):Tr c H w M ν H'' w'' Kg ν'':=
 ⟨k.mem,h.ch.trans k.ch,h.goes.trans k.goes⟩
theorem Tr.refl{c:Ctx}{H:Nat→Option br}{w:World}{M:Nat→Prop}{ν:Nat→Value}(h:Mem c H w M ν):Tr c H w M ν H w M ν:=
 ⟨h,.refl w M,.refl H ν⟩
theorem ay(H:Nat→Option br)(d:Nat)(v:Option br):cm H d v d=v:=by simp[cm]
theorem az(H:Nat→Option br){d i:Nat}(v:Option br)(h:i≠d):cm H d v i=H i:=by
 have:Nat.beq i d=false:=by rw[←lJ,xp];exact h
 simp[cm,this]
theorem Se(ups:js): ∀σ:St,(σ.xq ups).H=cU σ.H ups:=by
 induction ups with
 |nil=>intro σ;rfl
 |cons u r ih=>intro σ;exact ih _
theorem Sf(ups:js): ∀σ:St,(σ.xq ups).T=σ.T:=by
 induction ups with
 |nil=>intro σ;rfl
 |cons u r ih=>intro σ;exact ih _
theorem eY(a b:js): ∀H,cU H (a++b)=cU (cU H a) b:=by
 induction a with
 |nil=>intro H;rfl
 |cons u r ih=>intro H;exact ih _
theorem yN{H:Nat→Option br}{id j:Nat}{v:br}(h:H j≠none):cm H id (some v) j≠none:=by
 by_cases hj:j=id
 ·subst hj;rw[ay];simp
 ·rw[az _ _ hj];exact h
theorem LN{H:Nat→Option br}{w:World}{ν:Nat→Value}(h: ∀i τ x p j,H i=some (.gk τ x p j)→H j≠none∧ ∃b,ν i= .pointer (some ⟨b,0,none⟩)∧w.cell? ⟨b,cF p τ,none⟩=some (ν j)){id:Nat}{v:br}(hv: ∀τ x p j,v≠ .gk τ x p j):
  ∀i τ x p j,cm H id (some v) i=some (.gk τ x p j)→cm H id (some v) j≠none∧ ∃b,ν i= .pointer (some ⟨b,0,none⟩)∧w.cell? ⟨b,cF p τ,none⟩=some (ν j):=by
 intro i τ x p j hi
 by_cases ct:i=id
 ·subst ct;rw[ay]at hi;cases hi;exact absurd rfl (hv _ _ _ _)
 ·rw[az _ _ ct]at hi
  obtain⟨h1,h2⟩:=h i τ x p j hi
  exact⟨yN h1,h2⟩
theorem Tr.gone{c:Ctx}{H:Nat→Option br}{w:World}{M:Nat→Prop}{ν:Nat→Value}(h:Mem c H w M ν)(id:Nat):Tr c H w M ν (cm H id (some .gone)) w M ν:=by
 refine⟨⟨λi e he=> ?_,λi j e e' b qw hi hm hj ji=> ?_,λi e b hi hm=> ?_,λi e l b hi=> ?_,LN h.gk (λ_ _ _ _=>by simp),h.sub,h.GI,h.frame,h.size,h.wT,h.os,h.tape,h.output⟩,.refl w M,⟨λi e he=> ?_,λ_ _=>rfl⟩⟩
 ·by_cases bl:i=id
  ·subst bl;rw[ay]at he;cases he;simp[ER]
  ·rw[az _ _ bl]at he;exact h.jQ i e he
 ·by_cases bl:i=id
  ·subst bl;rw[ay]at hi;cases hi;simp[br.mut]at hm
  ·by_cases hjd:j=id
   ·subst hjd;rw[ay]at hj;cases hj;simp[br.mut]at ji
   ·rw[az _ _ bl]at hi;rw[az _ _ hjd]at hj;exact h.Bf i j e e' b qw hi hm hj ji
 ·by_cases bl:i=id
  ·subst bl;rw[ay]at hi;cases hi;simp[br.mut]at hm
  ·rw[az _ _ bl]at hi;exact h.new i e b hi hm
 ·by_cases bl:i=id
  ·subst bl;rw[ay]at hi;cases hi
  ·rw[az _ _ bl]at hi;exact h.oS i e l b hi
 ·by_cases bl:i=id
  ·subst bl;exact⟨.gone,ay _ _ _,by cases e<;>simp[br.lO]⟩
  ·exact⟨e,by rw[az _ _ bl];exact he,.refl e⟩
theorem cell_of{w:World}{b:Nat}{cs:Array Value}{t:TypeId}{fz:Nat×Nat}(h:w.heap[b]? =some (.cells cs t fz))(o:Nat):w.cell? ⟨b,o,none⟩=cs[o]? :=by
 simp[World.cell?,h]
theorem At.of_block{w:World}{b:Nat}{cs:Array Value}{t:TypeId}{fz:Nat×Nat}(h:w.heap[b]? =some (.cells cs t fz))(o n:Nat):
  At w b o ((cs.toList.drop o).take n):=by
 intro j v hj
 rw[cell_of h]
 rw[mX]at hj
 split at hj
 ·rw[mY]at hj;simpa using hj
 ·cases hj
theorem lt_of_block{w:World}{b:Nat}{o:Obj}(h:w.heap[b]? =some o):b<w.heap.size:=(lH.1 h).1
theorem ER.ch{w w':World}{M M':Nat→Prop}{v:Value}(k:fP w M w' M'): ∀{e:br},
  (e.mut→ ∀b,fD v=some b→w'.heap[b]? =w.heap[b]? ∧M' b)→ER w M v e→ER w' M' v e
 | .obj τ x,hm,h=>by
  simp only[ER]at h ⊢
  obtain⟨b,cs,t,rfl,hb,hM,hr⟩:=h
  obtain⟨h1,h2⟩:=hm trivial b rfl
  exact⟨b,cs,t,rfl,h1.trans hb,h2,hr.ch k⟩
 | .gk τ x p j,hm,h=>by
  simp only[ER]at h ⊢
  obtain⟨b,cs,t,kf,u,rfl,hb,hM,hr,h3⟩:=h
  obtain⟨h1,h2⟩:=hm trivial b rfl
  exact⟨b,cs,t,kf,u,rfl,h1.trans hb,h2,hr.ch k,h3⟩
 | .own e l,hm,h=>by
  simp only[ER]at h ⊢
  rcases h with h|⟨b,cs,t,cap,rfl,hb,hM,hc,hl,FF,hs,hr⟩
  ·exact .inl h
  ·obtain⟨h1,h2⟩:=hm trivial b (by simp[fD];omega)
   exact .inr ⟨b,cs,t,cap,rfl,h1.trans hb,h2,hc,hl,FF,hs,λi hi=>(hr i hi).ch k⟩
 | .pG e l,_,h=>by
  simp only[ER]at h ⊢
  exact⟨h.1.ch k,h.2⟩
 | .gone,_,_=>by simp[ER]
theorem ER.xC{w:World}{M:Nat→Prop}{v:Value}{e:br}(h:ER w M v e)(hm:e.mut){b:Nat}(hb:fD v=some b):M b:=by
 cases e with
 |obj τ x=>simp only[ER]at h;obtain⟨b',cs,t,hv,fb,hM,_⟩:=h;rw[hv]at hb;simp only[fD,iI]at hb;subst hb;exact hM
 |gk τ x p j=>simp only[ER]at h;obtain⟨b',cs,t,_,_,hv,fb,hM,_⟩:=h;rw[hv]at hb;simp only[fD,iI]at hb;subst hb;exact hM
 |own e1 l1=>
  simp only[ER]at h
  rcases h with⟨_,a,hv⟩|⟨b',cs,t,cap,hv,fb,hM,hc,_⟩
  ·rw[hv]at hb;cases a<;>simp[fD]at hb
  ·rw[hv]at hb;simp only[fD]at hb;split at hb
   ·cases hb
   ·simp only[iI]at hb;subst hb;exact hM
 |pG _ _=>simp[br.mut]at hm
 |gone=>simp[br.mut]at hm
theorem Tr.freeze{c:Ctx}{H:Nat→Option br}{w:World}{M:Nat→Prop}{ν:Nat→Value}(h:Mem c H w M ν){id:Nat}{e:Ty}{l:List e.den}(bl:H id=some (.own e l)):
  ∃M',Tr c H w M ν (cm H id (some (.pG e l))) w M' ν∧V w M' (.slice e) (ν id) l∧ ∀b,M' b↔(M b∧fD (ν id)≠some b):=by
 have hk:fP w M w (λb=>M b∧fD (ν id)≠some b):=⟨aH _,λ_ _ _=>rfl,λ_ _ h=>h.1⟩
 have he:=h.jQ id _ bl
 have kD:Rd w (λb=>M b∧fD (ν id)≠some b) (.slice e) [ν id] l:=by
  simp only[ER]at he
  simp only[Rd]
  rcases he with⟨rfl,a,hv⟩|⟨b,cs,t,cap,hv,hb,hM,hc,hl,FF,hs,hr⟩
  ·exact⟨a,0,by rw[hv];rfl,aH _,λi hi=>absurd hi (by simp)⟩
  ·refine⟨_,cap,by rw[hv],hl,λi hi=>⟨b,0,rfl,lt_of_block hb,λhm=>hm.2 (by rw[hv];simp[fD];omega),_,?_,(hr i hi).ch hk⟩⟩
   rw[fX]
   exact At.of_block hb _ _
 refine⟨λb=>M b∧fD (ν id)≠some b,⟨⟨λi e' hi=> ?_,λi j e1 e2 b qw hi hm hj ji=> ?_,λi e1 b hi hm=> ?_,λi e1 l1 b hi=> ?_,LN h.gk (λ_ _ _ _=>by simp),λb hb=>⟨h.sub b hb,λhm=>h.oS id e l b bl hm hb⟩,λb hb=>h.GI b hb.1,h.frame,h.size,h.wT,h.os,h.tape,h.output⟩,hk,⟨λi e' hi=> ?_,λ_ _=>rfl⟩⟩,?_,λ_=>Iff.rfl⟩
 ·by_cases ct:i=id
  ·subst ct;rw[ay]at hi;cases hi
   simp only[ER]
   refine⟨kD,?_⟩
   simp only[ER]at he
   rcases he with⟨rfl,a,hv⟩|⟨b,cs,t,cap,hv,_⟩
   ·exact .inl ⟨rfl,a,0,0,hv⟩
   ·exact .inr ⟨b,_,cap,hv⟩
  ·rw[az _ _ ct]at hi
   refine(h.jQ i e' hi).ch hk (λhm b hb=>⟨rfl,?_,?_⟩)
   ·exact(h.jQ i e' hi).xC hm hb
   ·exact h.Bf i id e' (.own e l) b ct hi hm bl trivial hb
 ·by_cases ct:i=id
  ·subst ct;rw[ay]at hi;cases hi;simp[br.mut]at hm
  ·by_cases Jl:j=id
   ·subst Jl;rw[ay]at hj;cases hj;simp[br.mut]at ji
   ·rw[az _ _ ct]at hi;rw[az _ _ Jl]at hj;exact h.Bf i j e1 e2 b qw hi hm hj ji
 ·by_cases ct:i=id
  ·subst ct;rw[ay]at hi;cases hi;simp[br.mut]at hm
  ·rw[az _ _ ct]at hi;exact h.new i e1 b hi hm
 ·by_cases ct:i=id
  ·subst ct;rw[ay]at hi;cases hi
  ·rw[az _ _ ct]at hi;exact h.oS i e1 l1 b hi
 ·by_cases ct:i=id
  ·subst ct;rw[bl]at hi;cases hi;exact⟨_,ay _ _ _,rfl,rfl⟩
  ·exact⟨e',by rw[az _ _ ct];exact hi,.refl e'⟩
 ·unfold V;rw[ag (by simp[Ty.isAgg])];exact kD
theorem Tr.fix{c:Ctx}{H:Nat→Option br}{w:World}{M:Nat→Prop}{ν:Nat→Value}(h:Mem c H w M ν){id:Nat}{τ:Ty}{x:τ.den}(bl:H id=some (.obj τ x)):
  ∃M' b,Tr c H w M ν (cm H id (some .gone)) w M' ν∧ν id= .pointer (some ⟨b,0,none⟩)∧b<w.heap.size∧ ¬M' b∧ ∃cs,At w b 0 cs∧Rd w M' τ cs x:=by
 have he:=h.jQ id _ bl
 simp only[ER]at he
 obtain⟨b0,cs,t,hv,hb,hM,hr⟩:=he
 have xD:fD (ν id)=some b0:=by rw[hv];rfl
 have hk:fP w M w (λb=>M b∧b≠b0):=⟨aH _,λ_ _ _=>rfl,λ_ _ h=>h.1⟩
 have GJ: ¬c.M0 b0:=λhm=>(h.new id _ b0 bl trivial xD).elim (λhB=>by have:=h.wT.1 b0 hm;omega) (λhB=>h.wT.2 b0 hB hm)
 refine⟨λb=>M b∧b≠b0,b0,⟨⟨λi e' hi=> ?_,λi j e1 e2 b qw hi hm hj ji=> ?_,λi e1 b hi hm=> ?_,λi e1 l1 b hi=> ?_,LN h.gk (λ_ _ _ _=>by simp),λb fb=>⟨h.sub b fb,λe=>GJ (e▸fb)⟩,λb fb=>h.GI b fb.1,h.frame,h.size,h.wT,h.os,h.tape,h.output⟩,hk,⟨λi e' hi=> ?_,λ_ _=>rfl⟩⟩,hv,lt_of_block hb,λhm=>hm.2 rfl,cs.toList,?_,hr.ch hk⟩
 ·by_cases ct:i=id
  ·subst ct;rw[ay]at hi;cases hi;simp[ER]
  ·rw[az _ _ ct]at hi
   refine(h.jQ i e' hi).ch hk (λhm b fb=>⟨rfl,?_,?_⟩)
   ·exact(h.jQ i e' hi).xC hm fb
   ·intro e
    exact h.Bf i id e' (.obj τ x) b ct hi hm bl trivial fb (by rw[xD,e])
 ·by_cases ct:i=id
  ·subst ct;rw[ay]at hi;cases hi;simp[br.mut]at hm
  ·by_cases Jl:j=id
   ·subst Jl;rw[ay]at hj;cases hj;simp[br.mut]at ji
   ·rw[az _ _ ct]at hi;rw[az _ _ Jl]at hj;exact h.Bf i j e1 e2 b qw hi hm hj ji
 ·by_cases ct:i=id
  ·subst ct;rw[ay]at hi;cases hi;simp[br.mut]at hm
  ·rw[az _ _ ct]at hi;exact h.new i e1 b hi hm
 ·by_cases ct:i=id
  ·subst ct;rw[ay]at hi;cases hi
  ·rw[az _ _ ct]at hi;exact h.oS i e1 l1 b hi
 ·by_cases ct:i=id
  ·subst ct;rw[bl]at hi;cases hi;exact⟨_,ay _ _ _,trivial⟩
  ·exact⟨e',by rw[az _ _ ct];exact hi,.refl e'⟩
 ·have:=At.of_block hb 0 cs.toList.length
  rwa [cM,ir]at this
theorem GK(w:World)(o:Obj):(w.alloc o).heap[w.heap.size]? =some o:=by
 show(w.heap.push o)[w.heap.size]? =some o
 simp
theorem rD(w:World)(o:Obj){i:Nat}(h:i<w.heap.size):(w.alloc o).heap[i]? =w.heap[i]? :=by
 show(w.heap.push o)[i]? =w.heap[i]?
 rw[Array.getElem?_push,ag (Nat.ne_of_lt h)]
theorem size_alloc(w:World)(o:Obj):(w.alloc o).heap.size=w.heap.size+1:=by
 show(w.heap.push o).size=_
 simp
def updν(ν:Nat→Value)(d:Nat)(v:Value):Nat→Value:=λi=>if i=d then v else ν i
theorem sl{c:Ctx}{H:Nat→Option br}{w w':World}{M:Nat→Prop}{ν ν':Nat→Value}(h:Mem c H w M ν){H':Nat→Option br}
  (hν: ∀i,H i≠none→ν' i=ν i) (hn: ∀i,H i≠none→H' i≠none)
  (hi: ∀i τ x p j,H' i=some (.gk τ x p j)→(H i=some (.gk τ x p j)∧ ∀b,ν i= .pointer (some ⟨b,0,none⟩)→w'.heap[b]? =w.heap[b]?)∨(H' j≠none∧ ∃b,ν' i= .pointer (some ⟨b,0,none⟩)∧w'.cell? ⟨b,cF p τ,none⟩=some (ν' j))):
  ∀i τ x p j,H' i=some (.gk τ x p j)→H' j≠none∧ ∃b,ν' i= .pointer (some ⟨b,0,none⟩)∧w'.cell? ⟨b,cF p τ,none⟩=some (ν' j):=by
 intro i τ x p j he
 rcases hi i τ x p j he with⟨h1,hb⟩|h1
 ·obtain⟨h2,b,h3,h4⟩:=h.gk i τ x p j h1
  refine⟨hn j h2,b,by rw[hν i (by rw[h1];simp)];exact h3,?_⟩
  rw[hν j h2,World.cell?_of_block (w:=w) (hb b h3)]
  exact h4
 ·exact h1
theorem yO{H:Nat→Option br}{id:Nat}{v:br}: ∀i,H i≠none→cm H id (some v) i≠none:=λ_ h=>yN h
theorem Bh{H:Nat→Option br}{id:Nat}{v:br}(hv: ∀τ x p j,v≠ .gk τ x p j){i:Nat}{τ:Ty}{x:τ.den}{p:List Step}{j:Nat}(h:cm H id (some v) i=some (.gk τ x p j)):H i=some (.gk τ x p j):=by
 by_cases ct:i=id
 ·subst ct;rw[ay]at h;cases h;exact absurd rfl (hv _ _ _ _)
 ·rw[az _ _ ct]at h;exact h
theorem Tr.alloc{c:Ctx}{H:Nat→Option br}{w:World}{M:Nat→Prop}{ν:Nat→Value}(h:Mem c H w M ν){id:Nat}(bl:H id=none)(o:Obj)(v:Value)(e:br)(hm:e.mut)(Kh: ∀τ x p j,e≠ .gk τ x p j)
  (hb:fD v=none∨fD v=some w.heap.size) (Vu:ER (w.alloc o) (λb=>M b∨b=w.heap.size) v e):
  Tr c H w M ν (cm H id (some e)) (w.alloc o) (λb=>M b∨b=w.heap.size) (updν ν id v):=by
 have hk:fP w M (w.alloc o) (λb=>M b∨b=w.heap.size):=
  ⟨by rw[size_alloc];omega,λb hb _=>rD w o hb,λb hb h'=>h'.resolve_right ω⟩
 have hν: ∀i,i≠id→updν ν id v i=ν i:=λi hi=>by simp[updν,hi]
 have hνs:updν ν id v id=v:=by simp[updν]
 have eU: ∀i e' b,H i=some e'→e'.mut→fD (ν i)=some b→b<w.heap.size:=λi e' b hi ji fb=>h.GI b ((h.jQ i e' hi).xC ji fb)
 refine⟨⟨λi e' hi=> ?_,λi j e1 e2 b qw hi ug hj yP=> ?_,λi e1 b hi ug=> ?_,λi e1 l1 b hi=> ?_,sl h (λi hi=>hν i (λe=>hi (e▸bl))) yO (λi τ x p j hi=> .inl ⟨Bh Kh hi,λb hb=>rD w o (eU i _ b (Bh Kh hi) trivial (by rw[hb];rfl))⟩),λb hb=> .inl (h.sub b hb),λb fb=> ?_,λb nD vm=> ?_,?_,h.wT,h.os,h.tape,h.output⟩,hk,⟨λi e' hi=> ?_,λi hi=> ?_⟩⟩
 ·by_cases ct:i=id
  ·subst ct;rw[ay]at hi;cases hi;rw[hνs];exact Vu
  ·rw[az _ _ ct]at hi;rw[hν i ct]
   exact(h.jQ i e' hi).ch hk λji b fb=>⟨rD w o (eU i e' b hi ji fb),.inl ((h.jQ i e' hi).xC ji fb)⟩
 ·by_cases ct:i=id
  ·subst ct;rw[ay]at hi;cases hi;rw[hνs]
   intro nD
   have Jl:j≠i:=fk qw
   rw[az _ _ Jl]at hj;rw[hν j Jl]
   intro vm
   have:=eU j e2 b hj yP vm
   rcases hb with hb|hb<;>rw[hb]at nD<;>simp at nD
   omega
  ·rw[az _ _ ct]at hi;rw[hν i ct]
   by_cases Jl:j=id
   ·subst Jl;rw[hνs]
    intro nD vm
    have:=eU i e1 b hi ug nD
    rcases hb with hb|hb<;>rw[hb]at vm<;>simp at vm
    omega
   ·rw[az _ _ Jl]at hj;rw[hν j Jl];exact h.Bf i j e1 e2 b qw hi ug hj yP
 ·by_cases ct:i=id
  ·subst ct;rw[hνs]
   intro nD
   rcases hb with hb|hb<;>rw[hb]at nD<;>simp at nD
   subst nD;exact .inl h.size
  ·rw[az _ _ ct]at hi;rw[hν i ct];exact h.new i e1 b hi ug
 ·by_cases ct:i=id
  ·subst ct;rw[hνs]
   intro nD h0
   rcases hb with hb|hb<;>rw[hb]at nD<;>simp at nD
   have:=h.wT.1 b h0
   have:=h.size
   omega
  ·rw[az _ _ ct]at hi;rw[hν i ct];exact h.oS i e1 l1 b hi
 ·rw[size_alloc]
  rcases fb with fb|fb
  ·have:=h.GI b fb;omega
  ·omega
 ·rw[rD w o (n6 nD h.size)];exact h.frame b nD vm
 ·rw[size_alloc];have:=h.size;omega
 ·by_cases ct:i=id
  ·subst ct;rw[bl]at hi;cases hi
  ·exact⟨e',by rw[az _ _ ct];exact hi,.refl e'⟩
 ·have ct:i≠id:=λe=>hi (e▸bl)
  exact hν i ct
theorem Tr.var{c:Ctx}{H:Nat→Option br}{w:World}{M:Nat→Prop}{ν:Nat→Value}(h:Mem c H w M ν){id:Nat}(bl:H id=none)(t:TypeId){τ:Ty}{cs:Array Value}{x:τ.den}(hr:Rd w M τ cs.toList x):
  Tr c H w M ν (cm H id (some (.obj τ x))) (w.alloc (.cells cs t)) (λb=>M b∨b=w.heap.size) (updν ν id (.pointer (some ⟨w.heap.size,0,none⟩))):=by
 refine Tr.alloc h bl _ _ _ trivial (λ_ _ _ _=>by simp) (.inr rfl) ?_
 simp only[ER]
 have hk:fP w M (w.alloc (.cells cs t)) (λb=>M b∨b=w.heap.size):=
  ⟨by rw[size_alloc];omega,λb hb _=>rD w _ hb,λb hb h'=>h'.resolve_right ω⟩
 exact⟨w.heap.size,cs,t,rfl,GK w _,.inr rfl,hr.ch hk⟩
theorem Tr.row{c:Ctx}{H:Nat→Option br}{w:World}{M:Nat→Prop}{ν:Nat→Value}(h:Mem c H w M ν){id:Nat}(bl:H id=none)(t:TypeId){e:Ty}{cs:Array Value}{l:List e.den}{cap:Nat}
  (hl:l.length≤cap) (hm:cap≤maxLen) (hs:cs.size=cap*e.size) (hr: ∀i (hi:i<l.length),Rd w M e ((cs.toList.drop (i*e.size)).take e.size) l[i]):
  Tr c H w M ν (cm H id (some (.own e l))) (w.alloc (.cells cs t)) (λb=>M b∨b=w.heap.size) (updν ν id (.slice (some ⟨w.heap.size,0,none⟩) l.length cap)):=by
 have hk:fP w M (w.alloc (.cells cs t)) (λb=>M b∨b=w.heap.size):=
  ⟨by rw[size_alloc];omega,λb hb _=>rD w _ hb,λb hb h'=>h'.resolve_right ω⟩
 refine Tr.alloc h bl _ _ _ trivial (λ_ _ _ _=>by simp) ?_ ?_
 ·simp only[fD];split
  ·exact .inl rfl
  ·exact .inr rfl
 ·simp only[ER]
  by_cases hc:cap=0
  ·subst hc
   have hl0:l=[]:=vo ω
   subst hl0
   exact .inl ⟨rfl,_,rfl⟩
  ·exact .inr ⟨w.heap.size,cs,t,cap,rfl,GK w _,.inr rfl,ω,hl,hm,hs,λi hi=>(hr i hi).ch hk⟩
theorem Tr.drew{c:Ctx}{H:Nat→Option br}{w:World}{M:Nat→Prop}{ν:Nat→Value}(h:Mem c H w M ν):Tr c H w M ν H w.drew M ν:=by
 have hk:fP w M w.drew M:=⟨aH _,λ_ _ _=>rfl,λ_ _ h=>h⟩
 exact⟨⟨λi e he=>(h.jQ i e he).ch hk λhm b hb=>⟨rfl,(h.jQ i e he).xC hm hb⟩,h.Bf,h.new,h.oS,h.gk,h.sub,h.GI,h.frame,h.size,h.wT,h.os,h.tape,h.output⟩,hk,.refl H ν⟩
theorem size_setRow(w:World)(g:Nat)(cs:Array Value):(w.setRow g cs).heap.size=w.heap.size:=by simp[World.setRow]
theorem Tr.write{c:Ctx}{H:Nat→Option br}{w:World}{M:Nat→Prop}{ν:Nat→Value}(h:Mem c H w M ν){id:Nat}{e e':br}(bl:H id=some e)(hm:e.mut)(ji:e'.mut)(hl:e.lO e')
  {b:Nat} (hb:fD (ν id)=some b) {cs new:Array Value} {t:TypeId} (hg:w.heap[b]? =some (.cells cs t (0,0)))
  (Vu: ∀M',fP w M (w.setRow b new) M'→M' b→ER (w.setRow b new) M' (ν id) e')
  (qQ: ∀τ x p j,e'= .gk τ x p j→H j≠none∧ ∃b',ν id= .pointer (some ⟨b',0,none⟩)∧(w.setRow b new).cell? ⟨b',cF p τ,none⟩=some (ν j):=by intro _ _ _ _ h;cases h):
  Tr c H w M ν (cm H id (some e')) (w.setRow b new) M ν:=by
 have hMb:M b:=(h.jQ id e bl).xC hm hb
 have hk:fP w M (w.setRow b new) M:=
  ⟨by rw[size_setRow];exact aH _,λb' _ hm=>setRow_other w b b' new (λe=>hm (e▸hMb)),λ_ _ h=>h⟩
 refine⟨⟨λi e1 hi=> ?_,λi j e1 e2 b1 qw hi ug hj yP=> ?_,λi e1 b1 hi ug=> ?_,λi e1 l1 b1 hi=> ?_,sl h (λ_ _=>rfl) yO (λi τ x p j hi=> ?_),h.sub,λb1 nD=>by rw[size_setRow];exact h.GI b1 nD,λb1 nD vm=> ?_,by rw[size_setRow];exact h.size,h.wT,h.os,h.tape,h.output⟩,hk,⟨λi e1 hi=> ?_,λi hi=>rfl⟩⟩
 ·by_cases ct:i=id
  ·subst ct;rw[ay]at hi;cases hi;exact Vu M hk hMb
  ·rw[az _ _ ct]at hi
   exact(h.jQ i e1 hi).ch hk λug b1 nD=>⟨setRow_other w b b1 new (λe'=>h.Bf i id e1 e b1 ct hi ug bl hm nD (e'▸hb)),(h.jQ i e1 hi).xC ug nD⟩
 ·by_cases ct:i=id
  ·subst ct;rw[ay]at hi;cases hi
   have Jl:j≠i:=fk qw
   rw[az _ _ Jl]at hj
   exact h.Bf i j e e2 b1 qw bl hm hj yP
  ·rw[az _ _ ct]at hi
   by_cases Jl:j=id
   ·subst Jl;exact h.Bf i j e1 e b1 qw hi ug bl hm
   ·rw[az _ _ Jl]at hj;exact h.Bf i j e1 e2 b1 qw hi ug hj yP
 ·by_cases ct:i=id
  ·subst ct;exact h.new i e b1 bl hm
  ·rw[az _ _ ct]at hi;exact h.new i e1 b1 hi ug
 ·by_cases ct:i=id
  ·subst ct;rw[ay]at hi;cases hi
   cases e with
   |own e0 l0=>exact h.oS i e0 l0 b1 bl
   |obj _ _=>simp[br.lO]at hl
   |gk _ _ _ _=>simp[br.lO]at hl
   |pG _ _=>simp[br.mut]at hm
   |gone=>simp[br.mut]at hm
  ·rw[az _ _ ct]at hi;exact h.oS i e1 l1 b1 hi
 ·by_cases ct:i=id
  ·subst ct;rw[ay]at hi;cases hi
   obtain⟨h1,h2⟩:=qQ _ _ _ _ rfl
   exact .inr ⟨yN h1,h2⟩
  ·rw[az _ _ ct]at hi
   exact .inl ⟨hi,λb1 nD=>setRow_other w b b1 new (λe1=>h.Bf i id _ e b1 ct hi trivial bl hm (by rw[nD];rfl) (e1▸hb))⟩
 ·rw[setRow_other w b b1 new]
  ·exact h.frame b1 nD vm
  ·intro hbb;subst hbb
   rcases h.new id e b1 bl hm hb with h'|h'
   ·omega
   ·exact vm h'
 ·by_cases ct:i=id
  ·subst ct;rw[bl]at hi;cases hi;exact⟨e',ay _ _ _,hl⟩
  ·exact⟨e1,by rw[az _ _ ct];exact hi,.refl e1⟩
theorem Tr.rename{c:Ctx}{H:Nat→Option br}{w:World}{M:Nat→Prop}{ν:Nat→Value}(h:Mem c H w M ν){j id:Nat}{e e':Ty}{l:List e.den}{l':List e'.den}(hj:H j=some (.own e l))(bl:H id=none)
  {v:Value} (hb:fD v=none∨fD v=fD (ν j)) (Vu:ER w M v (.own e' l')):
  Tr c H w M ν (cm (cm H j (some .gone)) id (some (.own e' l'))) w M (updν ν id v):=by
 have kN:j≠id:=λe=>by rw[e,bl]at hj;cases hj
 have h1:=(Tr.gone h j).mem
 have qx:cm H j (some .gone) id=none:=by rw[az _ _ (fk kN)];exact bl
 have hν: ∀i,i≠id→updν ν id v i=ν i:=λi hi=>by simp[updν,hi]
 have hνs:updν ν id v id=v:=by simp[updν]
 refine⟨⟨λi e1 hi=> ?_,λi k e1 e2 b1 qw hi ug hk yP=> ?_,λi e1 b1 hi ug=> ?_,λi e1 l1 b1 hi=> ?_,sl h1 (λi hi=>hν i (λe=>hi (e▸qx))) yO (λi τ x p j hi=> .inl ⟨Bh (λ_ _ _ _=>by simp) hi,λ_ _=>rfl⟩),h.sub,h.GI,h.frame,h.size,h.wT,h.os,h.tape,h.output⟩,.refl w M,⟨λi e1 hi=> ?_,λi hi=> ?_⟩⟩
 ·by_cases ct:i=id
  ·subst ct;rw[ay]at hi;cases hi;rw[hνs];exact Vu
  ·rw[az _ _ ct]at hi;rw[hν i ct];exact h1.jQ i e1 hi
 ·by_cases ct:i=id
  ·subst ct;rw[ay]at hi;cases hi;rw[hνs]
   have Og:k≠i:=fk qw
   rw[az _ _ Og]at hk;rw[hν k Og]
   intro nD
   rcases hb with hb|hb
   ·rw[hb]at nD;cases nD
   ·rw[hb]at nD
    by_cases hkj:k=j
    ·subst hkj;rw[ay]at hk;cases hk;simp[br.mut]at yP
    ·rw[az _ _ hkj]at hk;exact h.Bf j k _ e2 b1 (fk hkj) hj trivial hk yP nD
  ·rw[az _ _ ct]at hi;rw[hν i ct]
   by_cases Og:k=id
   ·subst Og;rw[hνs]
    intro nD vm
    rcases hb with hb|hb
    ·rw[hb]at vm;cases vm
    ·rw[hb]at vm
     by_cases JC:i=j
     ·subst JC;rw[ay]at hi;cases hi;simp[br.mut]at ug
     ·rw[az _ _ JC]at hi;exact h.Bf j i _ e1 b1 (fk JC) hj trivial hi ug vm nD
   ·rw[az _ _ Og]at hk;rw[hν k Og];exact h1.Bf i k e1 e2 b1 qw hi ug hk yP
 ·by_cases ct:i=id
  ·subst ct;rw[hνs];intro nD
   rcases hb with hb|hb
   ·rw[hb]at nD;cases nD
   ·rw[hb]at nD;exact h.new j _ b1 hj trivial nD
  ·rw[az _ _ ct]at hi;rw[hν i ct];exact h1.new i e1 b1 hi ug
 ·by_cases ct:i=id
  ·subst ct;rw[hνs];intro nD
   rcases hb with hb|hb
   ·rw[hb]at nD;cases nD
   ·rw[hb]at nD;exact h.oS j e l b1 hj nD
  ·rw[az _ _ ct]at hi;rw[hν i ct];exact h1.oS i e1 l1 b1 hi
 ·by_cases JC:i=j
  ·subst JC;exact⟨.gone,by rw[az _ _ kN,ay],by cases e1<;>simp[br.lO]⟩
  ·have ct:i≠id:=λe=>by rw[e,bl]at hi;cases hi
   exact⟨e1,by rw[az _ _ ct,az _ _ JC];exact hi,.refl e1⟩
 ·exact hν i (λe=>hi (e▸bl))
theorem Tr.JD{c:Ctx}{H:Nat→Option br}{w:World}{M:Nat→Prop}{ν:Nat→Value}(h:Mem c H w M ν){id:Nat}{e e':br}(bl:H id=some e)(hm:e.mut)(ji:e'.mut)(hl:e.lO e')(qy: ∀e0 l0,e'≠ .own e0 l0)
  (Vu:ER w M (ν id) e') (qQ: ∀τ x p j,e'= .gk τ x p j→H j≠none∧ ∃b',ν id= .pointer (some ⟨b',0,none⟩)∧w.cell? ⟨b',cF p τ,none⟩=some (ν j)):
  Tr c H w M ν (cm H id (some e')) w M ν:=by
 refine⟨⟨λi e1 hi=> ?_,λi j e1 e2 b1 qw hi ug hj yP=> ?_,λi e1 b1 hi ug=> ?_,λi e1 l1 b1 hi=> ?_,sl h (λ_ _=>rfl) yO (λi τ x p j hi=> ?_),h.sub,h.GI,h.frame,h.size,h.wT,h.os,h.tape,h.output⟩,.refl w M,⟨λi e1 hi=> ?_,λi hi=>rfl⟩⟩
 ·by_cases ct:i=id
  ·subst ct;rw[ay]at hi;cases hi;exact Vu
  ·rw[az _ _ ct]at hi;exact h.jQ i e1 hi
 ·by_cases ct:i=id
  ·subst ct;rw[ay]at hi;cases hi
   have Jl:j≠i:=fk qw
   rw[az _ _ Jl]at hj
   exact h.Bf i j e e2 b1 qw bl hm hj yP
  ·rw[az _ _ ct]at hi
   by_cases Jl:j=id
   ·subst Jl;exact h.Bf i j e1 e b1 qw hi ug bl hm
   ·rw[az _ _ Jl]at hj;exact h.Bf i j e1 e2 b1 qw hi ug hj yP
 ·by_cases ct:i=id
  ·subst ct;exact h.new i e b1 bl hm
  ·rw[az _ _ ct]at hi;exact h.new i e1 b1 hi ug
 ·by_cases ct:i=id
  ·subst ct;rw[ay]at hi;cases hi;exact absurd rfl (qy _ _)
  ·rw[az _ _ ct]at hi;exact h.oS i e1 l1 b1 hi
 ·by_cases ct:i=id
  ·subst ct;rw[ay]at hi;cases hi
   obtain⟨h1,h2⟩:=qQ _ _ _ _ rfl
   exact .inr ⟨yN h1,h2⟩
  ·rw[az _ _ ct]at hi;exact .inl ⟨hi,λ_ _=>rfl⟩
 ·by_cases ct:i=id
  ·subst ct;rw[bl]at hi;cases hi;exact⟨e',ay _ _ _,hl⟩
  ·exact⟨e1,by rw[az _ _ ct];exact hi,.refl e1⟩
theorem Tr.nothing{c:Ctx}{w:World}{M:Nat→Prop}{ν:Nat→Value}{H:Nat→Option br}(h:Mem c H w M ν){id:Nat}(bl:H id=none)(e:Ty)(ad:Option Addr):
  Tr c H w M ν (cm H id (some (.own e []))) w M (updν ν id (.slice ad 0 0)):=by
 have hν: ∀i,i≠id→updν ν id (.slice ad 0 0) i=ν i:=λi hi=>by simp[updν,hi]
 have hνs:updν ν id (.slice ad 0 0) id= .slice ad 0 0:=by simp[updν]
 have hb:fD (.slice ad 0 0)=none:=by cases ad<;>simp[fD]
 refine⟨⟨λi e1 hi=> ?_,λi k e1 e2 b1 qw hi ug hk yP=> ?_,λi e1 b1 hi ug=> ?_,λi e1 l1 b1 hi=> ?_,sl h (λi hi=>hν i (λe=>hi (e▸bl))) yO (λi τ x p j hi=> .inl ⟨Bh (λ_ _ _ _=>by simp) hi,λ_ _=>rfl⟩),h.sub,h.GI,h.frame,h.size,h.wT,h.os,h.tape,h.output⟩,.refl w M,⟨λi e1 hi=> ?_,λi hi=>hν i (λe=>hi (e▸bl))⟩⟩
 ·by_cases ct:i=id
  ·subst ct;rw[ay]at hi;cases hi;rw[hνs];simp only[ER];exact .inl ⟨trivial,ad,rfl⟩
  ·rw[az _ _ ct]at hi;rw[hν i ct];exact h.jQ i e1 hi
 ·by_cases ct:i=id
  ·subst ct;rw[hνs,hb];intro h';cases h'
  ·rw[az _ _ ct]at hi;rw[hν i ct]
   by_cases Og:k=id
   ·subst Og;rw[hνs,hb];intro _ h';cases h'
   ·rw[az _ _ Og]at hk;rw[hν k Og];exact h.Bf i k e1 e2 b1 qw hi ug hk yP
 ·by_cases ct:i=id
  ·subst ct;rw[hνs,hb];intro h';cases h'
  ·rw[az _ _ ct]at hi;rw[hν i ct];exact h.new i e1 b1 hi ug
 ·by_cases ct:i=id
  ·subst ct;rw[hνs,hb];intro h';cases h'
  ·rw[az _ _ ct]at hi;rw[hν i ct];exact h.oS i e1 l1 b1 hi
 ·have ct:i≠id:=λe=>by rw[e,bl]at hi;cases hi
  exact⟨e1,by rw[az _ _ ct];exact hi,.refl e1⟩
theorem bA{α:Type}{υ τ:Ty}{y:υ.den}{k:τ.den→Option α}{r:α}(h:cR υ τ y k=some r): ∃e:υ=τ,k (e▸y)=some r:=by
 unfold cR at h
 split at h
 ·rename_i e;exact⟨e,h⟩
 ·cases h
theorem dX{α:Type}{υ τ:Ty}{k:Option α}{r:α}(h:jt υ τ k=some r):υ=τ∧k=some r:=by
 unfold jt at h
 split at h
 ·rename_i e;exact⟨e,h⟩
 ·cases h
theorem V.slice{w:World}{M:Nat→Prop}{e:Ty}{v:Value}{l:List e.den}:V w M (.slice e) v l↔Rd w M (.slice e) [v] l:=by
 unfold V;rw[ag (by simp[Ty.isAgg])]
def Fz(H H1:Nat→Option br):Prop:= ∀i,H1 i=H i∨ ∃e l,H i=some (.own e l)∧H1 i=some (.pG e l)
theorem Fz.refl(H:Nat→Option br):Fz H H:=λ_=> .inl rfl
theorem Fz.none{H H1:Nat→Option br}(h:Fz H H1){i:Nat}(hi:H i=none):H1 i=none:=by
 rcases h i with h'|⟨e,l,h',_⟩
 ·rw[h',hi]
 ·rw[hi]at h';cases h'
theorem Fz.obj{H H1:Nat→Option br}(h:Fz H H1){i:Nat}{τ:Ty}{x:τ.den}(hi:H i=some (.obj τ x)):H1 i=some (.obj τ x):=by
 rcases h i with h'|⟨e,l,h',_⟩
 ·rw[h',hi]
 ·rw[hi]at h';cases h'
theorem CE{H:Nat→Option br}{id:Nat}{e:Option br}(h:H id=e):cm H id e=H:=by
 funext i
 by_cases hi:i=id
 ·subst hi;rw[ay,h]
 ·rw[az _ _ hi]
theorem ld{α:Type}{c:Ctx}{H H1:Nat→Option br}{w:World}{M:Nat→Prop}{ν:Nat→Value}(hz:Fz H H1)(hm:Mem c H1 w M ν){a:bG}{v:Value}(hv:VR w M H1 ν a v){τ:Ty}
  {k:τ.den→List Nat→js→Option α} {r:α} (h:nc true a H τ k=some r):
  ∃y rd ups M',k y rd ups=some r∧Tr c H1 w M ν (cU H1 ups) w M' ν∧V w M' τ v y∧Fz H (cU H1 ups)∧ ∀i,rd.contains i=false→cU H1 ups i=H1 i:=by
 unfold nc at h
 split at h
 ·
  obtain⟨e,h⟩:=bA h
  subst e
  simp only[VR]at hv
  exact⟨_,[],[],M,h,.refl hm,hv,hz,λ_ _=>rfl⟩
 ·
  obtain⟨e,h⟩:=bA h
  subst e
  simp only[VR]at hv
  exact⟨_,[],[],M,h,.refl hm,hv.1,hz,λ_ _=>rfl⟩
 ·
  split at h
  ·rename_i e k' _
   simp only[VR]at hv
   obtain⟨a,rfl⟩:=hv
   refine⟨[],[],[],M,h,.refl hm,V.slice.2 ?_,hz,λ_ _=>rfl⟩
   simp only[Rd]
   exact⟨a,0,rfl,aH _,λi hi=>absurd hi (by simp)⟩
  ·cases h
 ·rename_i id
  simp only[VR]at hv
  obtain⟨_,rfl⟩:=hv
  split at h
  ·rename_i e l bl
   obtain⟨e',h⟩:=bA h
   subst e'
   rcases hz id with h1|⟨e1,l1,h1,h2⟩
   ·rw[bl]at h1
    obtain⟨M',gw,hV,_⟩:=Tr.freeze hm h1
    refine⟨_,_,_,M',h,gw,hV,λi=> ?_,λi hi=>az _ _ (by simpa using hi)⟩
    show cm H1 id (some (.pG e l)) i=H i∨_
    by_cases hi:i=id
    ·subst hi;exact .inr ⟨e,l,bl,ay _ _ _⟩
    ·rw[az _ _ hi]
     rcases hz i with h'|⟨e2,l2,h2,h3⟩
     ·exact .inl h'
     ·exact .inr ⟨e2,l2,h2,by show cm H1 id _ i=_;rw[az _ _ hi];exact h3⟩
   ·rw[bl]at h1;cases h1
    have:=hm.jQ id _ h2
    simp only[ER]at this
    refine⟨_,_,[(id,some (.pG e l))],M,h,?_,V.slice.2 this.1,?_,λi hi=>az _ _ (by simpa using hi)⟩
    ·show Tr c H1 w M ν (cm H1 id (some (.pG e l))) w M ν
     rw[CE h2];exact .refl hm
    ·show Fz H (cm H1 id (some (.pG e l)))
     rw[CE h2];exact hz
  ·rename_i e l bl
   obtain⟨e',h⟩:=bA h
   subst e'
   have h1:H1 id=some (.pG e l):=by
    rcases hz id with h1|⟨e1,l1,h1,h2⟩
    ·rw[h1,bl]
    ·rw[bl]at h1;cases h1
   have:=hm.jQ id _ h1
   simp only[ER]at this
   exact⟨_,_,_,M,h,.refl hm,V.slice.2 this.1,hz,λ_ _=>rfl⟩
  ·cases h
 ·cases h
def Src(w:World)(M:Nat→Prop)(e:Ty)(v:Value)(l:List e.den):Prop:=
 ∃a cap,v= .slice a l.length cap∧ ∀i (h:i<l.length),∃b off cs,a=some ⟨b,off,none⟩∧At w b (off+i*e.size) cs∧Rd w M e cs l[i]
theorem Src.ab5{w:World}{M:Nat→Prop}{e:Ty}{v:Value}{l:List e.den}(h:V w M (.slice e) v l):Src w M e v l:=by
 have h:=V.slice.1 h
 simp only[Rd,fW,eL]at h
 obtain⟨a,cap,rfl,_,hr⟩:=h
 refine⟨a,cap,rfl,λi hi=> ?_⟩
 obtain⟨b,off,ha,_,_,cs,pH,kD⟩:=hr i hi
 exact⟨b,off,cs,ha,pH,kD⟩
theorem DS{α:Type}{c:Ctx}{H:Nat→Option br}{w:World}{M:Nat→Prop}{ν:Nat→Value}(hm:Mem c H w M ν){a:bG}{v:Value}(hv:VR w M H ν a v){e:Ty}
  {k:List e.den→List Nat→js→Option α} {r:α} (h:nc false a H (.slice e) k=some r):
  ∃y rd,k y rd []=some r∧Src w M e v y:=by
 unfold nc at h
 split at h
 ·obtain⟨e',h⟩:=bA h
  subst e'
  simp only[VR]at hv
  exact⟨_,[],h,.ab5 hv⟩
 ·obtain⟨e',h⟩:=bA h
  subst e'
  simp only[VR]at hv
  exact⟨_,[],h,.ab5 hv.1⟩
 ·have h:k [] [] []=some r:=h
  simp only[VR]at hv
  obtain⟨a,rfl⟩:=hv
  exact⟨[],[],h,a,0,rfl,λi hi=>absurd hi (by simp)⟩
 ·rename_i id
  simp only[VR]at hv
  obtain⟨_,rfl⟩:=hv
  split at h
  ·rename_i e1 l bl
   obtain⟨e',h⟩:=bA h
   cases e'
   refine⟨_,_,h,?_⟩
   have:=hm.jQ id _ bl
   simp only[ER]at this
   rcases this with⟨rfl,a,hv⟩|⟨b,cs,t,cap,hv,hb,hM,hc,hl,FF,hs,hr⟩
   ·exact⟨a,0,hv,λi hi=>absurd hi (by simp)⟩
   ·refine⟨_,cap,hv,λi hi=>⟨b,0,_,rfl,?_,hr i hi⟩⟩
    rw[fX]
    exact At.of_block hb _ _
  ·rename_i e1 l bl
   obtain⟨e',h⟩:=bA h
   cases e'
   have:=hm.jQ id _ bl
   simp only[ER]at this
   exact⟨_,_,h,.ab5 (V.slice.2 this.1)⟩
  ·cases h
 ·cases h
theorem Src.cells{w:World}{M:Nat→Prop}{e:Ty}{v:Value}{l:List e.den}(h:Src w M e v l)(kN:l≠[]):
  ∃b off cap news,v= .slice (some ⟨b,off,none⟩) l.length cap∧news.length=l.length*e.size∧At w b off news∧
   (∀i (hi:i<l.length),Rd w M e ((news.drop (i*e.size)).take e.size) l[i])∧ ∀u∈news,u.oneCell'=true:=by
 obtain⟨a,cap,rfl,hr⟩:=h
 have h0:0<l.length:=pT.2 kN
 obtain⟨b,off,_,ha,_⟩:=hr 0 h0
 subst ha
 have key: ∀n,n≤l.length→ ∃news:List Value,news.length=n*e.size∧At w b off news∧
   (∀i (hi:i<l.length),i<n→Rd w M e ((news.drop (i*e.size)).take e.size) l[i])∧ ∀u∈news,u.oneCell'=true:=by
  intro n
  induction n with
  |zero=>exact λ_=>⟨[],by simp,λj v hj=>by simp at hj,λi _ hi=>ω,by simp⟩
  |succ n ih=>
   intro hn
   obtain⟨news,hl,pH,kD,CF⟩:=ih ω
   obtain⟨b',aCu,cs,ha,avg,Vv⟩:=hr n ω
   cases ha
   refine⟨news++cs,by rw[aS,hl,Vv.length,eJ,kT],At.append.2 ⟨pH,by rw[hl];exact avg⟩,λi hi ke=> ?_,λu hu=> ?_⟩
   ·by_cases eU:i<n
    ·have h1:(i+1)*e.size≤n*e.size:=kB _ eU
     rw[eJ,kT]at h1
     rw[xc ω,yI (by rw[ec];omega)]
     exact kD i hi eU
    ·obtain rfl:i=n:=ω
     rw[mz hl,iG (by rw[Vv.length];exact aH _)]
     exact Vv
   ·rcases bn.1 hu with hu|hu
    ·exact CF u hu
    ·exact Vv.lL u hu
 obtain⟨news,hl,pH,kD,CF⟩:=key l.length (aH _)
 exact⟨b,off,cap,news,rfl,hl,pH,λi hi=>kD i hi hi,CF⟩
structure Core(c:Ctx)(σ:St)(tm:Array Value)(w:World)(M:Nat→Prop)(ν:Nat→Value):Prop where
 mem:Mem c σ.H w M ν
 tmp: ∀i,VR w M σ.H ν (σ.T i) (tm.getD i undef)
theorem Vw(w:World)(M:Nat→Prop)(H:Nat→Option br)(ν:Nat→Value)(v:Value):VR w M H ν (cvA v) v:=by
 unfold cvA
 split<;>simp[VR,V,Ty.isAgg,Rd]
theorem Core.op{c:Ctx}{σ:St}{tm:Array Value}{w:World}{M:Nat→Prop}{ν:Nat→Value}(h:Core c σ tm w M ν)(ds:List Deferred)(x:Operand):
  VR w M σ.H ν (σ.ρ x) (({tmps:=tm,defers:=ds}:Act).eval x):=by
 cases x with
 |tmp t=>exact h.tmp t
 |const v=>exact Vw w M σ.H ν v
 |global g=>simp[St.ρ,VR]
 |func f=>simp[St.ρ,VR,jP,Act.eval]
def aoY(P:Program)(t:TypeId)(τ:Ty):Prop:=
 ∀(w:World) (M:Nat→Prop) (u v:Value) (x y:τ.den) (b:BinOp) (xo yo:Operand),V w M τ u x→V w M τ v y→
  (eqGuard b t xo yo u v).run P w= .ok () w∧(binOp .eql t u v).run P w= .ok (.bool (oX τ x y)) w∧(binOp .neq t u v).run P w= .ok (.bool (!oX τ x y)) w
structure EnvTy(P:Program)(E:Env):Prop where
 ty: ∀t τ,E.ty t=some τ→kX P τ t
 eq: ∀t τ,E.ty t=some τ→τ.comparable=true→τ.isAgg=true→aoY P t τ
end VM
end
section
namespace VM
open Go
variable{P:Program}
theorem Bi{o:Oper}{ρ:Operand→Value}{t:TypeId}{i:TypeInfo}{z:Value}(ho:o.op= .alloc t)(hi:P.info? t=some i)(hz:i.zero=some z)(w:World):
  (execOp ρ o).run P w= .ok (.value (.pointer (some ⟨w.heap.size,0,none⟩))) (w.alloc (.cells z.cells t)):=by
 simp[execOp,ho,Instr.alloc,zeroValue,typeInfo,hi,hz,newVar,newRow]
theorem GM{o:Oper}{ρ:Operand→Value}{t:TypeId}{x:Operand}(ho:o.op= .box t x)(w:World):
  (execOp ρ o).run P w= .ok (.value (.pointer (some ⟨w.heap.size,0,none⟩))) (w.alloc (.cells (ρ x).cells t)):=by
 simp[execOp,ho,Instr.box,newVar,newRow]
theorem rE{τ:Ty}{t:TypeId}(h:kX P τ t)(w:World):(isAgg t).run P w= .ok τ.isAgg w:=by
 unfold kX at h
 cases τ<;>simp only[gI]at h
 ·simp[isAgg,run_underlying h.2,Ty.isAgg]
 ·simp[isAgg,run_underlying h.2,Ty.isAgg]
 ·simp[isAgg,run_underlying h.2,Ty.isAgg]
 ·obtain⟨_,e',h',_⟩:=h;simp[isAgg,run_underlying h',Ty.isAgg]
 ·obtain⟨_,e',h',_⟩:=h;simp[isAgg,run_underlying h',Ty.isAgg]
 ·obtain⟨_,e',f,h',_⟩:=h;simp[isAgg,run_underlying h',Ty.isAgg]
 ·obtain⟨_,e',h',_⟩:=h;simp[isAgg,run_underlying h',Ty.isAgg]
theorem dz{τ:Ty}{t:TypeId}(h:kX P τ t)(w:World):(Go.sizeOf t).run P w= .ok τ.size w:=by
 obtain⟨i,hi,hs,_⟩:=h.base
 simp[Go.sizeOf,typeInfo,hi,hs]
theorem DT{w:World}{M:Nat→Prop}{τ:Ty}{t:TypeId}(h:kX P τ t){b off:Nat}{cs:List Value}{x:τ.den}(ha:At w b off cs)(hr:Rd w M τ cs x):
  (loadVar t ⟨b,off,none⟩).run P w= .ok (cr τ cs) w:=by
 have hl:(loadCells ⟨b,off,none⟩ τ.size).run P w= .ok cs.toArray w:=by
  rw[←hr.length]
  exact run_loadCells_list w _ cs λj v hj=>by rw[show(⟨b,off,none⟩:Addr).add j=⟨b,off+j,none⟩from by unfold Addr.add;split<;>simp_all];exact ha j v hj
 unfold cr
 by_cases GN:τ.isAgg=true
 ·simp[loadVar,rE h,GN,dz h,hl]
 ·obtain⟨v,rfl,hc⟩:=hr.scalar (by simpa using GN)
  have h0:=ha 0 v rfl
  simp only[mB]at h0
  simp[loadVar,rE h,GN,load,Sem.run,h0]
theorem DU{w:World}{τ:Ty}{t:TypeId}(h:kX P τ t)(GN:τ.isAgg=true){b off:Nat}{cs:List Value}(ha:At w b off cs)(hl:cs.length=τ.size):
  (loadVar t ⟨b,off,none⟩).run P w= .ok (.agg cs.toArray) w:=by
 have hl:(loadCells ⟨b,off,none⟩ τ.size).run P w= .ok cs.toArray w:=by
  rw[←hl]
  exact run_loadCells_list w _ cs λj v hj=>by rw[show(⟨b,off,none⟩:Addr).add j=⟨b,off+j,none⟩from by unfold Addr.add;split<;>simp_all];exact ha j v hj
 simp[loadVar,rE h,GN,dz h,hl]
theorem GO{o:Oper}{ρ:Operand→Value}{t:TypeId}{x:Operand}(ho:o.op= .load t x){w:World}{τ:Ty}(h:kX P τ t)(GN:τ.isAgg=true){b off:Nat}{cs:List Value}
  (hx:ρ x= .pointer (some ⟨b,off,none⟩)) (ha:At w b off cs) (hl:cs.length=τ.size):
  (execOp ρ o).run P w= .ok (.value (.agg cs.toArray)) w:=by
 simp[execOp,ho,hx,Instr.loadAt,Instr.sureAddr,DU h GN ha hl]
theorem xE{o:Oper}{ρ:Operand→Value}{t:TypeId}{x:Operand}(ho:o.op= .load t x){w:World}{M:Nat→Prop}{τ:Ty}(h:kX P τ t){b off:Nat}{cs:List Value}{y:τ.den}
  (hx:ρ x= .pointer (some ⟨b,off,none⟩)) (ha:At w b off cs) (hr:Rd w M τ cs y):
  (execOp ρ o).run P w= .ok (.value (cr τ cs)) w:=by
 simp[execOp,ho,hx,Instr.loadAt,Instr.sureAddr,DT h ha hr]
theorem lP{o:Oper}{ρ:Operand→Value}{t:TypeId}{x y:Operand}(ho:o.op= .store t x y){w:World}{τ:Ty}(h:kX P τ t){b off:Nat}{cur:Array Value}{te:TypeId}
  (hx:ρ x= .pointer (some ⟨b,off,none⟩)) (hg:w.heap[b]? =some (.cells cur te (0,0))) (hs:(ρ y).cells.size=τ.size) (hf:off+τ.size≤cur.size) (h1: ∀v∈(ρ y).cells.toList,v.oneCell'=true):
  (execOp ρ o).run P w= .ok .skip (w.setRow b (cur.toList.take off++(ρ y).cells.toList++cur.toList.drop (off+(ρ y).cells.toList.length)).toArray):=by
 have w7:=run_storeCells_at (P:=P) b off te (ρ y).cells.toList 0 cur w hg (by simp[hs];omega) h1
 simp only[mB]at w7
 simp[execOp,ho,hx,Instr.storeAt,Instr.sureAddr,storeVar,dz h,hs,w7]
theorem uQ{o:Oper}{ρ:Operand→Value}{t:TypeId}{x:Operand}{n:Nat}(ho:o.op= .fieldAddr t x n){w:World}{fs:Array Field}{f:Field}{b off:Nat}{υ:Ty}
  (hu:P.underlying t=some (.struct fs)) (hf:fs[n]? =some f) (hl:kX P υ f.type) (hz:υ.size≠0) (hx:ρ x= .pointer (some ⟨b,off,none⟩)):
  ∃a,(execOp ρ o).run P w= .ok (.value a) w∧a= .pointer (some ⟨b,off+f.offset,none⟩):=by
 refine⟨_,?_,rfl⟩
 simp[execOp,ho,hx,Instr.fieldAt,Instr.sureAddr,run_underlying hu,hf,fieldPlace,Addr.add_lit,dz hl,hz]
theorem Bj{τ:Ty}{t:TypeId}(h:kX P τ t){w:World}{M:Nat→Prop}{cs:Array Value}{off:Nat}{x:τ.den}(hr:Rd w M τ ((cs.toList.drop off).take τ.size) x):
  (part t cs off).run P w= .ok (cr τ ((cs.toList.drop off).take τ.size)) w:=by
 have hl:=hr.length
 unfold cr
 by_cases GN:τ.isAgg=true
 ·simp only[part,Sem.run_bind,rE h,Result.andThen_ok,GN,ib,dz h]
  simp
  rw[cj,ec,bp]at hl
  apply ia
  simp only[Array.toList_extract,List.extract_eq_take_drop,AL]
 ·obtain⟨v,hv,hc⟩:=hr.scalar (by simpa using GN)
  rw[hv]
  have h0:cs[off]? =some v:=by
   have:=fe (λl=>l[0]?) hv
   simp only[mX,mY]at this
   split at this
   ·simpa using this
   ·simp at this
  simp[part,rE h,GN,h0]
theorem LO{o:Oper}{ρ:Operand→Value}{t:TypeId}{x:Operand}{n:Nat}(ho:o.op= .field t x n){w:World}{M:Nat→Prop}{fs:Array Field}{f:Field}{cs:Array Value}{υ:Ty}{y:υ.den}
  (hu:P.underlying t=some (.struct fs)) (hf:fs[n]? =some f) (hl:kX P υ f.type) (hx:ρ x= .agg cs) (hr:Rd w M υ ((cs.toList.drop f.offset).take υ.size) y):
  (execOp ρ o).run P w= .ok (.value (cr υ ((cs.toList.drop f.offset).take υ.size))) w:=by
 simp[execOp,ho,hx,Instr.field,run_underlying hu,hf,asAgg,Bj hl hr]
theorem mh{o:Oper}{ρ:Operand→Value}{t e:TypeId}{x i:Operand}(ho:o.op= .indexAddr t x i){w:World}{τe:Ty}{b off len cap:Nat}{k:IntKind}{n:Int}
  (hu:P.underlying t=some (.slice e)) (he:kX P τe e) (hx:ρ x= .slice (some ⟨b,off,none⟩) len cap) (hi:ρ i= .int k n) (h0:0≤n) (h1:n<(len:Int)):
  (execOp ρ o).run P w= .ok (.value (.pointer (some ⟨b,off+n.toNat*τe.size,none⟩))) w:=by
 simp[execOp,ho,hx,hi,Instr.indexAt,asIntOf,run_underlying hu,h0,h1,dz he,Addr.add_lit]
theorem tD{o:Oper}{ρ:Operand→Value}{t e:TypeId}{x i:Operand}(ho:o.op= .indexAddr t x i){w:World}{τe:Ty}{b off len:Nat}{k:IntKind}{n:Int}
  (hu:P.underlying t=some (.array len e)) (he:kX P τe e) (hx:ρ x= .pointer (some ⟨b,off,none⟩)) (hi:ρ i= .int k n) (h0:0≤n) (h1:n<(len:Int)):
  (execOp ρ o).run P w= .ok (.value (.pointer (some ⟨b,off+n.toNat*τe.size,none⟩))) w:=by
 simp[execOp,ho,hx,hi,Instr.indexAt,Instr.sureAddr,asIntOf,run_underlying hu,h0,h1,dz he,Addr.add_lit]
theorem JE{o:Oper}{ρ:Operand→Value}{t e:TypeId}{x i:Operand}(ho:o.op= .index t x i){w:World}{M:Nat→Prop}{τe:Ty}{len:Nat}{k:IntKind}{n:Int}{cs:Array Value}{y:τe.den}
  (hu:P.underlying t=some (.array len e)) (he:kX P τe e) (hx:ρ x= .agg cs) (hi:ρ i= .int k n) (h0:0≤n) (h1:n<(len:Int)) (hr:Rd w M τe ((cs.toList.drop (n.toNat*τe.size)).take τe.size) y):
  (execOp ρ o).run P w= .ok (.value (cr τe ((cs.toList.drop (n.toNat*τe.size)).take τe.size))) w:=by
 simp[execOp,ho,hx,hi,Instr.index,asIntOf,run_underlying hu,h0,h1,dz he,Bj he hr]
theorem GP{o:Oper}{ρ:Operand→Value}{x:Operand}{n:Nat}(ho:o.op= .extract x n){w:World}{us:List Value}{v:Value}(hx:ρ x= .tuple us.toArray)(hv:us[n]? =some v):
  (execOp ρ o).run P w= .ok (.value v) w:=by
 simp[execOp,ho,hx,Instr.extract,hv]
theorem Oh{o:Oper}{ρ:Operand→Value}{x y z:Operand}(ho:o.op= .pick x y z){w:World}{b:Bool}(hx:ρ x= .bool b):
  (execOp ρ o).run P w= .ok (.value (if b then ρ y else ρ z)) w:=by
 simp[execOp,ho,hx,asBool]
theorem wF{o:Oper}{ρ:Operand→Value}{x:Operand}(ho:o.op= .nilCheck x){w:World}{a:Addr}(hx:ρ x= .pointer (some a)):
  (execOp ρ o).run P w= .ok (.value (.pointer (some a))) w:=by
 simp[execOp,ho,hx]
theorem E0{o:Oper}{ρ:Operand→Value}{f:FuncId}{first caps:Array Operand}(ho:o.op= .makeFunc (.func f) first caps)(hf:first= #[]){w:World}:
  (execOp ρ o).run P w= .ok (.value (.func (.func f) #[] (caps.map ρ))) w:=by
 subst hf
 simp[execOp,ho,Instr.makeFunc]
theorem GQ{o:Oper}{ρ:Operand→Value}{s d:TypeId}{x:Operand}(ho:o.op= .convert s d x){w:World}{k k':IntKind}{n:Int}(hs:(P.underlying s).isSome=true)(hd:P.underlying d=some (.int k))(hx:ρ x= .int k' n):
  (execOp ρ o).run P w= .ok (.value (.int k (k.wrap n))) w:=by
 obtain⟨ds,hs⟩:=Option.isSome_iff_exists.1 hs
 simp[execOp,ho,hx,convert,run_underlying hs,run_underlying hd,Conv.intToInt]
theorem xF{o:Oper}{ρ:Operand→Value}{u:UnOp}{t:TypeId}{x:Operand}(ho:o.op= .unOp u t x){w:World}{v:Value}(h:(Op.unary u (ρ x)).run P w= .ok v w):
  (execOp ρ o).run P w= .ok (.value v) w:=by
 simp[execOp,ho,h]
theorem qZ{o:Oper}{ρ:Operand→Value}{b:BinOp}{t t':TypeId}{x y:Operand}(ho:o.op= .binOp b t x y t'){w:World}{v:Value}
  (hg:(eqGuard b t x y (ρ x) (ρ y)).run P w= .ok () w) (h:(binOp b t (ρ x) (ρ y)).run P w= .ok v w):
  (execOp ρ o).run P w= .ok (.value v) w:=by
 simp[execOp,ho,hg,h]
theorem qz{b:BinOp}{t:TypeId}{x y:Operand}{k k':IntKind}{m n:Int}(w:World):(eqGuard b t x y (.int k m) (.int k' n)).run P w= .ok () w:=by
 cases b<;>simp[eqGuard]
theorem CG{b:BinOp}{t:TypeId}{x y:Operand}{m n:Bool}(w:World):(eqGuard b t x y (.bool m) (.bool n)).run P w= .ok () w:=by
 cases b<;>simp[eqGuard]
theorem E1{b:BinOp}{t:TypeId}{x y:Operand}{m n:ByteArray}(w:World):(eqGuard b t x y (.string m) (.string n)).run P w= .ok () w:=by
 cases b<;>simp[eqGuard]
theorem om{o:Oper}{ρ:Operand→Value}{b:Builtin}{args:Array Operand}{ts:Array TypeId}(ho:o.op= .call {callee:= .builtin b,args,argTypes:=ts}){w:World}:
  ∃cs,(execOp ρ o).run P w=(builtin b ts o.type cs (args.map ρ)).run P w:=by
 refine⟨args.map fun| .const _=>true|_=>false,?_⟩
 simp[execOp,ho,resolve,invoke]
 rfl
end VM
end
