/- A part of the proof of BookAll of layer 18: a machine that reads a function of the program as an equation between values. -/
import Derived.Test.YtfdcmiodcijmmaaGreatVm0
import Derived.WalkLawsBesides
set_option linter.all false
open List renaming getD→γ
section
namespace VM
open Go
def BE(P:Program)(τ:Ty)(t:TypeId):Prop:=
 ∃i,P.info? t=some i∧i.size=τ.size∧i.zero=some (aZ τ τ.bq)∧i.bytes≤2048
def dN(P:Program):Ty→TypeId ⊕ (Array Field×Nat×Nat)→Prop
 | .int k,.inl t=>BE P (.int k) t∧P.underlying t=some (.int k)
 | .bool,.inl t=>BE P .bool t∧P.underlying t=some .bool
 | .str,.inl t=>BE P .str t∧P.underlying t=some .string
 | .slice e,.inl t=>BE P (.slice e) t∧ ∃e',P.underlying t=some (.slice e')∧dN P e (.inl e')
 | .arr n e,.inl t=>BE P (.arr n e) t∧ ∃e',P.underlying t=some (.array n e')∧dN P e (.inl e')
 | .unit,.inl t=>BE P .unit t∧ ∃fs,P.underlying t=some (.struct fs)∧fs.size=0
 | .unit,.inr (fs,n,_)=>fs.size=n
 | .pair a b,.inl t=>BE P (.pair a b) t∧ ∃fs f,P.underlying t=some (.struct fs)∧fs[0]? =some f∧f.offset=0∧dN P a (.inl f.type)∧dN P b (.inr (fs,1,a.size))
 | .pair a b,.inr (fs,n,off)=> ∃f,fs[n]? =some f∧f.offset=off∧dN P a (.inl f.type)∧dN P b (.inr (fs,n+1,off+a.size))
 |_,.inr _=>False
def gA(P:Program)(τ:Ty)(t:TypeId):Prop:=dN P τ (.inl t)
theorem gA.base{P:Program}{τ:Ty}{t:TypeId}(h:gA P τ t):BE P τ t:=by
 unfold gA at h;cases τ<;>simp only[dN]at h<;>exact h.1
theorem gA.int{P:Program}{k:IntKind}{t:TypeId}(h:gA P (.int k) t):P.underlying t=some (.int k):=by simp only[gA,dN]at h;exact h.2
theorem gA.bool{P:Program}{t:TypeId}(h:gA P .bool t):P.underlying t=some .bool:=by simp only[gA,dN]at h;exact h.2
theorem gA.str{P:Program}{t:TypeId}(h:gA P .str t):P.underlying t=some .string:=by simp only[gA,dN]at h;exact h.2
theorem gA.slice{P:Program}{e:Ty}{t:TypeId}(h:gA P (.slice e) t): ∃e',P.underlying t=some (.slice e')∧gA P e e':=by simp only[gA,dN]at h;exact h.2
theorem gA.arr{P:Program}{n:Nat}{e:Ty}{t:TypeId}(h:gA P (.arr n e) t): ∃e',P.underlying t=some (.array n e')∧gA P e e':=by simp only[gA,dN]at h;exact h.2
theorem gA.isSome{P:Program}{τ:Ty}{t:TypeId}(h:gA P τ t):(P.underlying t).isSome=true:=by
 unfold gA at h
 cases τ<;>simp only[dN]at h
 ·simp[h.2]
 ·simp[h.2]
 ·simp[h.2]
 ·obtain⟨_,e',h',_⟩:=h;simp[h']
 ·obtain⟨_,e',h',_⟩:=h;simp[h']
 ·obtain⟨_,e',f,h',_⟩:=h;simp[h']
 ·obtain⟨_,e',h',_⟩:=h;simp[h']
inductive vy:(τ:Ty)→τ.den→Nat→(υ:Ty)→υ.den→Nat→Prop where
 |here {a b:Ty} (x:(Ty.pair a b).den):vy (.pair a b) x 0 a x.1 0
 |there {a b:Ty} (x:(Ty.pair a b).den) {n:Nat} {υ:Ty} {y:υ.den} {o:Nat} (h:vy b x.2 n υ y o):vy (.pair a b) x (n+1) υ y (a.size+o)
theorem kz{α:Type}{r:α}: ∀{τ:Ty} {x:τ.den} {n:Nat} {k:(υ:Ty)→υ.den→Option α},oF τ x n k=some r→ ∃υ y o,vy τ x n υ y o∧k υ y=some r
 | .pair a b,x,0,k,h=>⟨a,x.1,0,.here x,h⟩
 | .pair a b,x,n+1,k,h=>by
  obtain⟨υ,y,o,hf,hk⟩:=kz (τ:=b) (x:=x.2) (n:=n) (k:=k) h
  exact⟨υ,y,_,.there x hf,hk⟩
 | .int _,_,_,_,h| .bool,_,_,_,h| .str,_,_,_,h| .slice _,_,_,_,h| .unit,_,_,_,h| .arr _ _,_,_,_,h=>by simp[oF]at h
theorem vy.bound{τ:Ty}{x:τ.den}{n:Nat}{υ:Ty}{y:υ.den}{o:Nat}(h:vy τ x n υ y o):o+υ.size≤τ.size:=by
 induction h with
 |here x=>simp[Ty.size]
 |there x h ih=>simp only[Ty.size];omega
theorem vy.rd{w:World}{M:Nat→Prop}{τ:Ty}{x:τ.den}{n:Nat}{υ:Ty}{y:υ.den}{o:Nat}(h:vy τ x n υ y o):
  ∀{cs:List Value},Rd w M τ cs x→Rd w M υ ((cs.drop o).take υ.size) y:=by
 induction h with
 |here x=>
  intro cs hr
  simp only[Rd]at hr
  obtain⟨c1,c2,rfl,h1,_⟩:=hr
  rw[bY,pS h1.length];exact h1
 |there x h ih=>
  intro cs hr
  simp only[Rd]at hr
  obtain⟨c1,c2,rfl,h1,h2⟩:=hr
  rw[←eK,kd h1.length]
  exact ih h2
theorem dN.fG{P:Program}{τ:Ty}{x:τ.den}{m:Nat}{υ:Ty}{y:υ.den}{o:Nat}(h:vy τ x m υ y o):
  ∀{fs:Array Field} {n off:Nat},dN P τ (.inr (fs,n,off))→ ∃f,fs[n+m]? =some f∧f.offset=off+o∧gA P υ f.type:=by
 induction h with
 |here x=>
  intro fs n off hl
  simp only[dN]at hl
  obtain⟨f,hf,ho,ha,_⟩:=hl
  exact⟨f,hf,by simpa using ho,ha⟩
 |there x h ih=>
  intro fs n off hl
  simp only[dN]at hl
  obtain⟨f,hf,ho,_,hb⟩:=hl
  obtain⟨f',sa,VZ,zO⟩:=ih hb
  exact⟨f',by rw[←sa];congr 1;omega,ω,zO⟩
theorem gA.fG{P:Program}{τ:Ty}{t:TypeId}{x:τ.den}{m:Nat}{υ:Ty}{y:υ.den}{o:Nat}(hl:gA P τ t)(h:vy τ x m υ y o):
  ∃fs f,P.underlying t=some (.struct fs)∧fs[m]? =some f∧f.offset=o∧gA P υ f.type:=by
 unfold gA at hl
 cases h with
 |here x=>
  simp only[dN]at hl
  obtain⟨_,fs,f,hu,hf,ho,ha,_⟩:=hl
  exact⟨fs,f,hu,hf,ho,ha⟩
 |there x h=>
  simp only[dN]at hl
  obtain⟨_,fs,f,hu,hf,ho,_,hb⟩:=hl
  obtain⟨f',sa,VZ,zO⟩:=dN.fG h hb
  exact⟨fs,f',hu,by rw[←sa];congr 1;omega,ω,zO⟩
inductive BF:List Step→(τ:Ty)→τ.den→(υ:Ty)→υ.den→Nat→Prop where
 |nil {τ:Ty} (x:τ.den):BF [] τ x τ x 0
 |fG {p:List Step} {τ υ σ:Ty} {x:τ.den} {n o:Nat} {y:υ.den} {z:σ.den} {q:Nat} (h:vy τ x n υ y o) (r:BF p υ y σ z q):BF (.fG n::p) τ x σ z (o+q)
 |idx {p:List Step} {n:Nat} {e σ:Ty} {x:(Ty.arr n e).den} {i:Nat} {z:σ.den} {q:Nat} (r:BF p e (γ x i e.zero) σ z q):BF (.idx i::p) (.arr n e) x σ z (i*e.size+q)
theorem gB{α:Type}{r:α}: ∀{p:List Step} {τ:Ty} {x:τ.den} {k:(υ:Ty)→υ.den→Option α},tj p τ x k=some r→ ∃υ y o,BF p τ x υ y o∧k υ y=some r
 |[],τ,x,k,h=>⟨τ,x,0,.nil x,h⟩
 | .fG n::p,τ,x,k,h=>by
  obtain⟨υ,y,o,hf,h'⟩:=kz (h:oF τ x n _=some r)
  obtain⟨σ,z,q,hp,hk⟩:=gB h'
  exact⟨σ,z,_,.fG hf hp,hk⟩
 | .idx i::p,τ,x,k,h=>by
  cases τ with
  |arr n e=>
   obtain⟨σ,z,q,hp,hk⟩:=gB (p:=p) (τ:=e) (x:=γ x i e.zero) (k:=k) h
   exact⟨σ,z,_,.idx hp,hk⟩
  |_=>simp[tj,RV]at h
def m3:Ty→Nat→Ty
 | .pair a b,n=>match n with|0=>a|n+1=>m3 b n
 |τ,_=>τ
def dO:Ty→Nat→Nat
 | .pair a b,n=>match n with|0=>0|n+1=>a.size+dO b n
 |_,_=>0
def RX:Ty→Ty
 | .arr _ e=>e
 |τ=>τ
def z7:List Step→Ty→Ty
 |[],τ=>τ
 | .fG n::p,τ=>z7 p (m3 τ n)
 | .idx _::p,τ=>z7 p (RX τ)
def bs:List Step→Ty→Nat
 |[],_=>0
 | .fG n::p,τ=>dO τ n+bs p (m3 τ n)
 | .idx i::p,τ=>i*(RX τ).size+bs p (RX τ)
def rI:List Step→Ty→Prop
 |[],_=>True
 | .fG n::p,τ=>rI p (m3 τ n)
 | .idx i::p,τ=>(∃n e,τ= .arr n e∧i<n)∧rI p (RX τ)
theorem vy.eq{τ:Ty}{x:τ.den}{n:Nat}{υ:Ty}{y:υ.den}{o:Nat}(h:vy τ x n υ y o):υ=m3 τ n∧o=dO τ n:=by
 induction h with
 |here x=>exact⟨rfl,rfl⟩
 |there x h ih=>obtain⟨rfl,rfl⟩:=ih;exact⟨rfl,rfl⟩
theorem BF.eq{p:List Step}{τ:Ty}{x:τ.den}{υ:Ty}{y:υ.den}{o:Nat}(h:BF p τ x υ y o):υ=z7 p τ∧o=bs p τ:=by
 induction h with
 |nil x=>exact⟨rfl,rfl⟩
 |fG h r ih=>
  obtain⟨h1,h2⟩:=h.eq
  obtain⟨h3,h4⟩:=ih
  subst h1 h2 h3 h4
  exact⟨rfl,rfl⟩
 |idx r ih=>
  obtain⟨h3,h4⟩:=ih
  subst h3 h4
  exact⟨rfl,rfl⟩
theorem RY(p q:List Step): ∀τ,z7 (p++q) τ=z7 q (z7 p τ):=by
 induction p with
 |nil=>intro τ;rfl
 |cons s p ih=>intro τ;cases s<;>simp[z7,ih]
theorem nq(p q:List Step): ∀τ,bs (p++q) τ=bs p τ+bs q (z7 p τ):=by
 induction p with
 |nil=>intro τ;simp[bs,z7]
 |cons s p ih=>intro τ;cases s<;>simp[bs,z7,ih,kt]
theorem nr(p q:List Step): ∀τ,rI (p++q) τ↔rI p τ∧rI q (z7 p τ):=by
 induction p with
 |nil=>intro τ;simp[rI,z7]
 |cons s p ih=>intro τ;cases s<;>simp[rI,z7,ih,and_assoc]
theorem gP{α:Type}(l:List α)(i:Nat)(d:α)(h:i<l.length):l.getD i d=l[i]:=by simp[γ,bc h]
theorem tp{α:Type}(n:Nat): ∀(l:List (List α)) (i:Nat) (h:i<l.length),(∀j (hj:j<l.length),l[j].length=n)→(l.flatten.drop (i*n)).take n=l[i]
 |a::l,0,_,hn=>by
  have:=hn 0 (by simp)
  simp only[xv]at this
  simp[←this]
 |a::l,i+1,h,hn=>by
  have h0:=hn 0 (by simp)
  simp only[xv]at h0
  rw[sY,cI,gw,Nat.add_comm (i*n) n,←eK,kd h0]
  exact tp n l i (by simpa using h) (λj hj=>hn (j+1) (by simp;omega))
theorem Rd.idx{w:World}{M:Nat→Prop}{n:Nat}{e:Ty}{cs:List Value}{x:(Ty.arr n e).den}(h:Rd w M (.arr n e) cs x){i:Nat}(hi:i<n):
  Rd w M e ((cs.drop (i*e.size)).take e.size) (γ x i e.zero):=by
 simp only[Rd]at h
 obtain⟨hn,IC,hc,rfl,hr⟩:=h
 rw[tp e.size IC i ω (λj hj=>(hr j ω hj).length),gP x i e.zero ω]
 exact hr i ω ω
theorem BF.bound{p:List Step}{τ:Ty}{x:τ.den}{υ:Ty}{y:υ.den}{o:Nat}(h:BF p τ x υ y o):rI p τ→o+υ.size≤τ.size:=by
 induction h with
 |nil x=>intro _;simp
 |fG h r ih=>
  intro hi
  obtain⟨h1,h2⟩:=h.eq
  subst h1
  have:=ih hi
  have:=h.bound
  omega
 | @idx p n e σ x i z q r ih=>
  intro hi
  obtain⟨⟨n',e',he,hJ⟩,po⟩:=hi
  cases he
  have:=ih po
  have h2:(i+1)*e.size≤n*e.size:=gh _ hJ
  rw[cI]at h2
  simp only[Ty.size]
  omega
theorem BF.rd{w:World}{M:Nat→Prop}{p:List Step}{τ:Ty}{x:τ.den}{υ:Ty}{y:υ.den}{o:Nat}(h:BF p τ x υ y o):
  rI p τ→ ∀{cs:List Value},Rd w M τ cs x→Rd w M υ ((cs.drop o).take υ.size) y:=by
 induction h with
 |nil x=>intro _ cs hr;rw[bY,jf (by rw[hr.length];exact aB _)];exact hr
 |fG h r ih=>
  intro hi cs hr
  obtain⟨h1,h2⟩:=h.eq
  subst h1
  have:=ih hi (h.rd hr)
  have hb:=BF.bound r hi
  rw[mj,eK,mm,fb ω]at this
  exact this
 | @idx p n e σ x i z q r ih=>
  intro hi cs hr
  obtain⟨⟨n',e',he,hJ⟩,po⟩:=hi
  cases he
  have:=ih po (hr.idx hJ)
  have hb:=BF.bound r po
  rw[mj,eK,mm,fb ω]at this
  exact this
def cL{α:Type}(cs:List α)(o:Nat)(new:List α):List α:=cs.take o++new++cs.drop (o+new.length)
theorem tq{α:Type}{a b:List α}{o:Nat}{new:List α}(h:o+new.length≤a.length):cL (a++b) o new=cL a o new++b:=by
 unfold cL
 rw[qQ ω,sP ω]
 simp only[aT]
theorem qU{α:Type}{a b:List α}{o:Nat}{new:List α}:cL (a++b) (a.length+o) new=a++cL b o new:=by
 unfold cL
 rw[List.take_append,jf ω,sU,kt,List.drop_append,gd ω,sU]
 simp
theorem cK{α:Type}{a:List α}{o:Nat}{new:List α}(h:o+new.length≤a.length):(cL a o new).length=a.length:=by
 unfold cL;simp;omega
theorem w1{α:Type}{a:List α}{o i n:Nat}{new:List α}(h:i+n≤o∨o+new.length≤i)(hl:o+new.length≤a.length):((cL a o new).drop i).take n=(a.drop i).take n:=by
 apply sZ
 intro j
 simp only[iA,iB]
 split
 ·rename_i hj
  unfold cL
  rcases h with h|h
  ·rw[aT,ng (by simp;omega),iA,ae ω]
  ·rw[lH (by simp;omega)]
   simp only[aC,bV,fb (show o≤a.length by omega),iB]
   congr 1;omega
 ·rfl
theorem RZ{α:Type}{a:List α}{o:Nat}{new:List α}(hl:o+new.length≤a.length):((cL a o new).drop o).take new.length=new:=by
 unfold cL
 rw[aT,kd (by simp;omega),pS rfl]
theorem xS{α:Type}{l:List α}{o:Nat}{u:α}(h:l[o]? =some u):cL l o [u]=l:=by
 obtain⟨dv,rfl⟩:=oz.1 h
 unfold cL
 simp
theorem qV{α:Type}{l:List α}{o:Nat}{u:α}(h:o<l.length):(cL l o [u])[o]? =some u:=by
 unfold cL
 rw[aT,lH (by simp;omega)]
 simp[fb (Nat.le_of_lt h)]
theorem jm{τ:Ty}: ∀{n:Nat} {a:Ty},ti τ n=some a→ ∀x:τ.den,∃y o,vy τ x n a y o:=by
 induction τ with
 |pair a b _ Ky=>
  intro n c h x
  cases n with
  |zero=>cases h;exact⟨_,_,.here x⟩
  |succ n=>
   obtain⟨y,o,hf⟩:=Ky (n:=n) (a:=c) h x.2
   exact⟨y,_,.there x hf⟩
 |_=>intro n c h;simp[ti]at h
theorem oe: ∀{p:List Step} {τ υ:Ty},dE p τ υ=true→ ∀x:τ.den,∃y o,BF p τ x υ y o
 |[],τ,υ,h,x=>by
  have h:=bH h
  subst h
  exact⟨x,0,.nil x⟩
 | .fG n::p,τ,υ,h,x=>by
  unfold dE at h
  split at h
  ·rename_i a ha
   obtain⟨y,o,hf⟩:=jm ha x
   obtain⟨z,q,hp⟩:=oe h y
   exact⟨z,_,.fG hf hp⟩
  ·cases h
 | .idx _::_,_,_,h,_=>by simp[dE]at h
theorem gQ: ∀{p:List Step} {τ υ:Ty},dE p τ υ=true→rI p τ∧z7 p τ=υ
 |[],τ,υ,h=>⟨trivial,bH h⟩
 | .fG n::p,τ,υ,h=>by
  have h0:=h
  unfold dE at h
  split at h
  ·rename_i a ha
   obtain⟨y,o,hf⟩:=jm ha τ.zero
   obtain⟨h1,h2⟩:=gQ h
   have:=hf.eq.1
   subst this
   exact⟨h1,h2⟩
  ·cases h
 | .idx _::_,_,_,h=>by simp[dE]at h
theorem sb: ∀{p q:List Step},CJ p q=true→p=q
 |[],[],_=>rfl
 | .fG a::p,.fG b::q,h=>by
  simp only[CJ,ba]at h
  rw[df h.1,sb h.2]
 |[],_::_,h| .fG _::_,[],h| .idx _::_,_,h| .fG _::_,.idx _::_,h=>by simp[CJ]at h
theorem vy.apart{τ:Ty}{x:τ.den}{n:Nat}{υ:Ty}{y:υ.den}{o:Nat}(h:vy τ x n υ y o): ∀{x':τ.den} {n':Nat} {υ':Ty} {y':υ'.den} {o':Nat},vy τ x' n' υ' y' o'→n≠n'→o+υ.size≤o'∨o'+υ'.size≤o:=by
 induction h with
 |here x=>
  intro x' n' υ' y' o' h' gY
  cases h' with
  |here=>exact absurd rfl gY
  |there _ h'=>left;omega
 |there x h ih=>
  intro x' n' υ' y' o' h' gY
  cases h' with
  |here=>right;omega
  |there _ h'=>rcases ih h' (λe=>gY (by rw[e]))with h1|h1<;>omega
theorem BF.apart{p:List Step}{τ:Ty}{x:τ.den}{υ:Ty}{y:υ.den}{o:Nat}(h:BF p τ x υ y o):rI p τ→ ∀{q:List Step} {e:Ty},dE q τ (.slice e)=true→rE p q=false→bs q τ<o∨o+υ.size≤bs q τ:=by
 induction h with
 |nil x=>intro _ q e _ h;simp[rE]at h
 | @fG p τ υ σ x n o y z q hf r ih=>
  intro hi q' e hq hp
  obtain⟨h1,h2⟩:=hf.eq
  subst h1 h2
  cases q' with
  |nil=>
   have:=bH hq
   subst this
   cases hf
  |cons s q'=>
   cases s with
   |idx i=>simp[dE]at hq
   |fG m=>
    unfold dE at hq
    split at hq
    ·rename_i a ha
     obtain⟨y',o',sa⟩:=jm ha x
     obtain⟨h3,h4⟩:=sa.eq
     subst h3 h4
     have hb:=r.bound hi
     obtain⟨h5,h6⟩:=gQ hq
     obtain⟨z',o2,HE⟩:=oe hq y'
     have cY:=HE.bound h5
     have ho2:=HE.eq.2
     subst ho2
     simp only[bs]
     by_cases hnm:n=m
     ·subst hnm
      have Dr:rE p q'=false:=by
       simp only[rE,Bool.and_eq_false_iff]at hp
       rcases hp with hp|hp
       ·rw[ku]at hp;cases hp
       ·exact hp
      rcases ih hi hq Dr with h7|h7<;>omega
     ·rcases hf.apart sa hnm with h7|h7
      ·right;omega
      ·left
       have:1≤(Ty.slice e).size:=aB _
       omega
    ·cases hq
 | @idx p n e' σ x i z q r ih=>
  intro hi q' e hq hp
  cases q' with
  |nil=>have:=bH hq;cases this
  |cons s q'=>
   cases s with
   |idx i=>simp[dE]at hq
   |fG m=>simp[dE,ti]at hq
def dd:Value→Option Nat
 | .pointer (some a)=>some a.block
 | .slice (some a) _ cap=>if cap=0 then none else some a.block
 |_=>none
def aI.mut:aI→Prop
 | .obj _ _| .own _ _| .dT _ _ _ _=>True
 |_=>False
def ER(w:World)(M:Nat→Prop)(v:Value):aI→Prop
 | .obj τ x=> ∃b cs t,v= .pointer (some ⟨b,0,none⟩)∧w.heap[b]? =some (.cells cs t (0,0))∧M b∧Rd w M τ cs.toList x
 | .dT τ x p _=> ∃b cs t fR u,v= .pointer (some ⟨b,0,none⟩)∧w.heap[b]? =some (.cells cs t (0,0))∧M b∧Rd w M τ fR x∧cs.toList=cL fR (bs p τ) [u]∧u.oneCell'=true∧ ∃e,dE p τ (.slice e)=true
 | .own e l=>(l=[]∧ ∃a,v= .slice a 0 0)∨
  ∃b cs t cap,v= .slice (some ⟨b,0,none⟩) l.length cap∧w.heap[b]? =some (.cells cs t (0,0))∧M b∧0<cap∧l.length≤cap∧cap≤maxLen∧cs.size=cap*e.size∧
   ∀i (h:i<l.length),Rd w M e ((cs.toList.drop (i*e.size)).take e.size) l[i]
 | .ke e l=>Rd w M (.slice e) [v] l∧((l=[]∧ ∃a n c,v= .slice a n c)∨ ∃b n c,v= .slice (some ⟨b,0,none⟩) n c)
 | .gone=>True
def AR(v:Value)(p:List Step)(u:Value):aI→Prop
 | .obj τ _| .dT τ _ _ _=>rI p τ∧ ∃b,v= .pointer (some ⟨b,0,none⟩)∧u= .pointer (some ⟨b,bs p τ,none⟩)
 | .own e l| .ke e l=> ∃i q,p= .idx i::q∧i<l.length∧rI q e∧ ∃b n c,v= .slice (some ⟨b,0,none⟩) n c∧u= .pointer (some ⟨b,i*e.size+bs q e,none⟩)
 | .gone=> ∃a,u= .pointer (some a)
def oI(τ:Ty)(n:Nat):Bool:=match ti τ n with
 |some (.slice _)=>true
 |_=>false
mutual
def VR(w:World)(M:Nat→Prop)(H:Nat→Option aI)(ν:Nat→Value):aM→Value→Prop
 | .any,_=>True
 | .Kw,v=>v=undef
 | .val τ x,v=>V w M τ v x
 | .BB τ x n,v=>V w M τ v x∧ ∃cs a,v= .agg cs∧cs.toList[dO τ n]? =some (.slice a 0 0)
 | .sub id e lo,v=>H id≠none∧ ∃a n cap,ν id= .slice a n cap∧v= .slice (if cap=lo then a else a.map (·.add (lo*e.size))) (n-lo) (cap-lo)
 | .zZ τ x n j,v=> ∃cs fR,v= .agg cs∧Rd w M τ fR x∧cs.toList=cL fR (dO τ n) [ν j]∧H j≠none∧oI τ n=true
 | .emp,v=> ∃a,v= .slice a 0 0
 | .ref id,v=>H id≠none∧v=ν id
 | .ft id p,v=> ∃e,H id=some e∧AR (ν id) p v e
 | .mw τ x,v=> ∃b off,v= .pointer (some ⟨b,off,none⟩)∧b<w.heap.size∧ ¬M b∧ ∃cs,At w b off cs∧Rd w M τ cs x
 | .Vb vs,v=> ∃us:List Value,v= .tuple us.toArray∧fH w M H ν vs us
 | .Dh f my,v=> ∃cs:List Value,v= .func (.func f) #[] cs.toArray∧fH w M H ν my cs
def fH(w:World)(M:Nat→Prop)(H:Nat→Option aI)(ν:Nat→Value):List aM→List Value→Prop
 |[],[]=>True
 |a::as,v::vs=>VR w M H ν a v∧fH w M H ν as vs
 |_,_=>False
end
def aI.gR:aI→aI→Prop
 | .obj τ _,.obj υ _| .obj τ _,.dT υ _ _ _| .dT τ _ _ _,.obj υ _| .dT τ _ _ _,.dT υ _ _ _=>τ=υ
 | .own e l,.own f k| .own e l,.ke f k| .ke e l,.ke f k=>e=f∧l.length=k.length
 |_,.gone=>True
 |_,_=>False
structure nM(H:Nat→Option aI)(ν:Nat→Value)(H':Nat→Option aI)(ν':Nat→Value):Prop where
 fM: ∀i e,H i=some e→ ∃e',H' i=some e'∧e.gR e'
 head: ∀i,H i≠none→ν' i=ν i
theorem AR.ptr{v:Value}{p:List Step}{u:Value}{e:aI}(h:AR v p u e): ∃a,u= .pointer (some a):=by
 cases e<;>simp only[AR]at h
 ·obtain⟨_,b,_,h⟩:=h;exact⟨_,h⟩
 ·obtain⟨_,b,_,h⟩:=h;exact⟨_,h⟩
 ·obtain⟨i,q,_,_,_,b,n,c,_,h⟩:=h;exact⟨_,h⟩
 ·obtain⟨i,q,_,_,_,b,n,c,_,h⟩:=h;exact⟨_,h⟩
 ·exact h
theorem AR.gR{v:Value}{p:List Step}{u:Value}{e e':aI}(h:AR v p u e)(l:e.gR e'):AR v p u e':=by
 have hp:=h.ptr
 cases e<;>cases e'<;>simp only[aI.gR]at l<;>simp only[AR]at h ⊢ <;>try exact hp
 ·subst l;exact h
 ·subst l;exact h
 ·subst l;exact h
 ·subst l;exact h
 ·obtain⟨rfl,hl⟩:=l;obtain⟨i,q,hp,hi,r⟩:=h;exact⟨i,q,hp,ω,r⟩
 ·obtain⟨rfl,hl⟩:=l;obtain⟨i,q,hp,hi,r⟩:=h;exact⟨i,q,hp,ω,r⟩
 ·obtain⟨rfl,hl⟩:=l;obtain⟨i,q,hp,hi,r⟩:=h;exact⟨i,q,hp,ω,r⟩
theorem aI.gR.refl(e:aI):e.gR e:=by cases e<;>simp[aI.gR]
theorem nM.refl(H:Nat→Option aI)(ν:Nat→Value):nM H ν H ν:=⟨λ_ e h=>⟨e,h,.refl e⟩,λ_ _=>rfl⟩
mutual
theorem VR.bm{w w':World}{M M':Nat→Prop}{H H':Nat→Option aI}{ν ν':Nat→Value}(k:dq w M w' M')(g:nM H ν H' ν'):
  ∀{a:aM} {v:Value},VR w M H ν a v→VR w' M' H' ν' a v
 | .any,_,_=>by simp[VR]
 | .Kw,_,h=>by simpa [VR]using h
 | .val τ x,v,h=>by simp only[VR]at h ⊢;exact h.bm k
 | .BB τ x n,v,h=>by simp only[VR]at h ⊢;exact⟨h.1.bm k,h.2⟩
 | .sub id e lo,v,h=>by
  simp only[VR]at h ⊢
  obtain⟨h1,h2⟩:=h
  obtain⟨e,he⟩:=sQ.1 h1
  obtain⟨e',nV,_⟩:=g.fM id e he
  exact⟨by simp[nV],by rw[g.head id h1];exact h2⟩
 | .zZ τ x n j,v,h=>by
  simp only[VR]at h ⊢
  obtain⟨cs,fR,h1,h2,h3,h4,h5⟩:=h
  obtain⟨e,he⟩:=sQ.1 h4
  obtain⟨e',nV,_⟩:=g.fM j e he
  exact⟨cs,fR,h1,h2.bm k,by rw[g.head j h4];exact h3,by simp[nV],h5⟩
 | .emp,_,h=>by simpa [VR]using h
 | .ref id,_,h=>by
  simp only[VR]at h ⊢
  obtain⟨h1,h2⟩:=h
  obtain⟨e,he⟩:=sQ.1 h1
  obtain⟨e',nV,_⟩:=g.fM id e he
  exact⟨by simp[nV],by rw[g.head id h1];exact h2⟩
 | .ft id p,_,h=>by
  simp only[VR]at h ⊢
  obtain⟨e,he,ha⟩:=h
  obtain⟨e',nV,hl⟩:=g.fM id e he
  exact⟨e',nV,by rw[g.head id (by simp[he])];exact ha.gR hl⟩
 | .mw τ x,_,h=>by
  simp only[VR]at h ⊢
  obtain⟨b,off,rfl,hb,hm,cs,ha,hr⟩:=h
  exact⟨b,off,rfl,ka hb k.size,λh'=>hm (k.less b hb h'),cs,ha.bm (k.block b hb hm),hr.bm k⟩
 | .Vb vs,_,h=>by
  simp only[VR]at h ⊢
  obtain⟨us,rfl,h⟩:=h
  exact⟨us,rfl,fH.bm k g h⟩
 | .Dh f my,_,h=>by
  simp only[VR]at h ⊢
  obtain⟨us,rfl,h⟩:=h
  exact⟨us,rfl,fH.bm k g h⟩
theorem fH.bm{w w':World}{M M':Nat→Prop}{H H':Nat→Option aI}{ν ν':Nat→Value}(k:dq w M w' M')(g:nM H ν H' ν'):
  ∀{as:List aM} {vs:List Value},fH w M H ν as vs→fH w' M' H' ν' as vs
 |[],[],_=>by simp[fH]
 |a::as,v::vs,h=>by simp only[fH]at h ⊢;exact⟨VR.bm k g h.1,fH.bm k g h.2⟩
 |[],_::_,h=>by simp[fH]at h
 |_::_,[],h=>by simp[fH]at h
end
end VM
end
section
namespace VM
open Go
structure Ctx where
 B:Nat
 w0:World
 M0:Nat→Prop
 may:Nat→Prop
 arg:Nat→Value
structure Mem(c:Ctx)(H:Nat→Option aI)(w:World)(M:Nat→Prop)(ν:Nat→Value):Prop where
 fM: ∀i e,H i=some e→ER w M (ν i) e
 tt: ∀i j e e' b,i≠j→H i=some e→e.mut→H j=some e'→e'.mut→dd (ν i)=some b→dd (ν j)≠some b
 new: ∀i e b,H i=some e→e.mut→dd (ν i)=some b→c.B≤b∨c.may b
 jE: ∀i e l b,H i=some (.own e l)→dd (ν i)=some b→ ¬c.M0 b
 dT: ∀i τ x p j,H i=some (.dT τ x p j)→H j≠none∧ ∃b,ν i= .pointer (some ⟨b,0,none⟩)∧w.cell? ⟨b,bs p τ,none⟩=some (ν j)
 sub: ∀b,c.M0 b→M b
 xT: ∀b,M b→b<w.heap.size
 frame: ∀b,b<c.B→ ¬c.may b→w.heap[b]? =c.w0.heap[b]?
 size:c.B≤w.heap.size
 pI:(∀b,c.M0 b→b<c.B)∧ ∀b,c.may b→ ¬c.M0 b
 os:w.os=c.w0.os
 tape:w.tape=c.w0.tape
 output:w.output=c.w0.output
structure Tr(c:Ctx)(H:Nat→Option aI)(w:World)(M:Nat→Prop)(ν:Nat→Value)(H':Nat→Option aI)(w':World)(M':Nat→Prop)(ν':Nat→Value):Prop where
 mem:Mem c H' w' M' ν'
 bm:dq w M w' M'
 goes:nM H ν H' ν'
theorem aI.gR.trans{a b d:aI}(h:a.gR b)(k:b.gR d):a.gR d:=by
 cases a<;>cases b<;>cases d<;>simp only[aI.gR]at h k ⊢ <;>first
  |exact h.trans k
  |exact⟨h.1.trans k.1,h.2.trans k.2⟩
theorem nM.trans{H H' V0:Nat→Option aI}{ν ν' ν'':Nat→Value}(h:nM H ν H' ν')(k:nM H' ν' V0 ν''):nM H ν V0 ν'':=by
 refine⟨λi e he=> ?_,λi hi=> ?_⟩
 ·obtain⟨e',nV,l⟩:=h.fM i e he
  obtain⟨e'',aar,l'⟩:=k.fM i e' nV
  exact⟨e'',aar,l.trans l'⟩
 ·obtain⟨e,he⟩:=sQ.1 hi
  obtain⟨e',nV,_⟩:=h.fM i e he
  rw[k.head i (by simp[nV]),h.head i hi]
theorem Tr.trans{c:Ctx}{H H' V0:Nat→Option aI}{w w' VY:World}{M M' CO:Nat→Prop}{ν ν' ν'':Nat→Value}
  (h:Tr c H w M ν H' w' M' ν') (k:Tr c H' w' M' ν' V0 VY CO ν''):Tr c H w M ν V0 VY CO ν'':=
 ⟨k.mem,h.bm.trans k.bm,h.goes.trans k.goes⟩
theorem Tr.refl{c:Ctx}{H:Nat→Option aI}{w:World}{M:Nat→Prop}{ν:Nat→Value}(h:Mem c H w M ν):Tr c H w M ν H w M ν:=
 ⟨h,.refl w M,.refl H ν⟩
theorem al(H:Nat→Option aI)(d:Nat)(v:Option aI):a8 H d v d=v:=by simp[a8]
theorem aq(H:Nat→Option aI){d i:Nat}(v:Option aI)(h:i≠d):a8 H d v i=H i:=by
 have:Nat.beq i d=false:=by rw[←gN,pZ];exact h
 simp[a8,this]
def bM(H:Nat→Option aI):fu→(Nat→Option aI)
 |[]=>H
 |u::r=>bM (a8 H u.1 u.2) r
theorem Gm(ups:fu): ∀σ:St,(σ.p7 ups).H=bM σ.H ups:=by
 induction ups with
 |nil=>intro σ;rfl
 |cons u r ih=>intro σ;exact ih _
theorem Gn(ups:fu): ∀σ:St,(σ.p7 ups).T=σ.T:=by
 induction ups with
 |nil=>intro σ;rfl
 |cons u r ih=>intro σ;exact ih _
theorem dr(a b:fu): ∀H,bM H (a++b)=bM (bM H a) b:=by
 induction a with
 |nil=>intro H;rfl
 |cons u r ih=>intro H;exact ih _
theorem qW{H:Nat→Option aI}{id j:Nat}{v:aI}(h:H j≠none):a8 H id (some v) j≠none:=by
 by_cases hj:j=id
 ·subst hj;rw[al];simp
 ·rw[aq _ _ hj];exact h
theorem BG{H:Nat→Option aI}{w:World}{ν:Nat→Value}(h: ∀i τ x p j,H i=some (.dT τ x p j)→H j≠none∧ ∃b,ν i= .pointer (some ⟨b,0,none⟩)∧w.cell? ⟨b,bs p τ,none⟩=some (ν j)){id:Nat}{v:aI}(hv: ∀τ x p j,v≠ .dT τ x p j):
  ∀i τ x p j,a8 H id (some v) i=some (.dT τ x p j)→a8 H id (some v) j≠none∧ ∃b,ν i= .pointer (some ⟨b,0,none⟩)∧w.cell? ⟨b,bs p τ,none⟩=some (ν j):=by
 intro i τ x p j hi
 by_cases a7:i=id
 ·subst a7;rw[al]at hi;cases hi;exact absurd rfl (hv _ _ _ _)
 ·rw[aq _ _ a7]at hi
  obtain⟨h1,h2⟩:=h i τ x p j hi
  exact⟨qW h1,h2⟩
theorem Tr.gone{c:Ctx}{H:Nat→Option aI}{w:World}{M:Nat→Prop}{ν:Nat→Value}(h:Mem c H w M ν)(id:Nat):Tr c H w M ν (a8 H id (some .gone)) w M ν:=by
 refine⟨⟨λi e he=> ?_,λi j e e' b ns hi hm hj fc=> ?_,λi e b hi hm=> ?_,λi e l b hi=> ?_,BG h.dT (λ_ _ _ _=>by simp),h.sub,h.xT,h.frame,h.size,h.pI,h.os,h.tape,h.output⟩,.refl w M,⟨λi e he=> ?_,λ_ _=>rfl⟩⟩
 ·by_cases aF:i=id
  ·subst aF;rw[al]at he;cases he;simp[ER]
  ·rw[aq _ _ aF]at he;exact h.fM i e he
 ·by_cases aF:i=id
  ·subst aF;rw[al]at hi;cases hi;simp[aI.mut]at hm
  ·by_cases hjd:j=id
   ·subst hjd;rw[al]at hj;cases hj;simp[aI.mut]at fc
   ·rw[aq _ _ aF]at hi;rw[aq _ _ hjd]at hj;exact h.tt i j e e' b ns hi hm hj fc
 ·by_cases aF:i=id
  ·subst aF;rw[al]at hi;cases hi;simp[aI.mut]at hm
  ·rw[aq _ _ aF]at hi;exact h.new i e b hi hm
 ·by_cases aF:i=id
  ·subst aF;rw[al]at hi;cases hi
  ·rw[aq _ _ aF]at hi;exact h.jE i e l b hi
 ·by_cases aF:i=id
  ·subst aF;exact⟨.gone,al _ _ _,by cases e<;>simp[aI.gR]⟩
  ·exact⟨e,by rw[aq _ _ aF];exact he,.refl e⟩
theorem cell_of{w:World}{b:Nat}{cs:Array Value}{t:TypeId}{fz:Nat×Nat}(h:w.heap[b]? =some (.cells cs t fz))(o:Nat):w.cell? ⟨b,o,none⟩=cs[o]? :=by
 simp[World.cell?,h]
theorem At.of_block{w:World}{b:Nat}{cs:Array Value}{t:TypeId}{fz:Nat×Nat}(h:w.heap[b]? =some (.cells cs t fz))(o n:Nat):
  At w b o ((cs.toList.drop o).take n):=by
 intro j v hj
 rw[cell_of h]
 rw[iA]at hj
 split at hj
 ·rw[iB]at hj;simpa using hj
 ·cases hj
theorem lt_of_block{w:World}{b:Nat}{o:Obj}(h:w.heap[b]? =some o):b<w.heap.size:=(gM.1 h).1
theorem ER.bm{w w':World}{M M':Nat→Prop}{v:Value}(k:dq w M w' M'): ∀{e:aI},
  (e.mut→ ∀b,dd v=some b→w'.heap[b]? =w.heap[b]? ∧M' b)→ER w M v e→ER w' M' v e
 | .obj τ x,hm,h=>by
  simp only[ER]at h ⊢
  obtain⟨b,cs,t,rfl,hb,hM,hr⟩:=h
  obtain⟨h1,h2⟩:=hm trivial b rfl
  exact⟨b,cs,t,rfl,h1.trans hb,h2,hr.bm k⟩
 | .dT τ x p j,hm,h=>by
  simp only[ER]at h ⊢
  obtain⟨b,cs,t,fR,u,rfl,hb,hM,hr,h3⟩:=h
  obtain⟨h1,h2⟩:=hm trivial b rfl
  exact⟨b,cs,t,fR,u,rfl,h1.trans hb,h2,hr.bm k,h3⟩
 | .own e l,hm,h=>by
  simp only[ER]at h ⊢
  rcases h with h|⟨b,cs,t,cap,rfl,hb,hM,hc,hl,zP,hs,hr⟩
  ·exact .inl h
  ·obtain⟨h1,h2⟩:=hm trivial b (by simp[dd];omega)
   exact .inr ⟨b,cs,t,cap,rfl,h1.trans hb,h2,hc,hl,zP,hs,λi hi=>(hr i hi).bm k⟩
 | .ke e l,_,h=>by
  simp only[ER]at h ⊢
  exact⟨h.1.bm k,h.2⟩
 | .gone,_,_=>by simp[ER]
theorem ER.qj{w:World}{M:Nat→Prop}{v:Value}{e:aI}(h:ER w M v e)(hm:e.mut){b:Nat}(hb:dd v=some b):M b:=by
 cases e with
 |obj τ x=>simp only[ER]at h;obtain⟨b',cs,t,hv,cY,hM,_⟩:=h;rw[hv]at hb;simp only[dd,eJ]at hb;subst hb;exact hM
 |dT τ x p j=>simp only[ER]at h;obtain⟨b',cs,t,_,_,hv,cY,hM,_⟩:=h;rw[hv]at hb;simp only[dd,eJ]at hb;subst hb;exact hM
 |own e1 l1=>
  simp only[ER]at h
  rcases h with⟨_,a,hv⟩|⟨b',cs,t,cap,hv,cY,hM,hc,_⟩
  ·rw[hv]at hb;cases a<;>simp[dd]at hb
  ·rw[hv]at hb;simp only[dd]at hb;split at hb
   ·cases hb
   ·simp only[eJ]at hb;subst hb;exact hM
 |ke _ _=>simp[aI.mut]at hm
 |gone=>simp[aI.mut]at hm
theorem Tr.freeze{c:Ctx}{H:Nat→Option aI}{w:World}{M:Nat→Prop}{ν:Nat→Value}(h:Mem c H w M ν){id:Nat}{e:Ty}{l:List e.den}(aF:H id=some (.own e l)):
  ∃M',Tr c H w M ν (a8 H id (some (.ke e l))) w M' ν∧V w M' (.slice e) (ν id) l∧ ∀b,M' b↔(M b∧dd (ν id)≠some b):=by
 have hk:dq w M w (λb=>M b∧dd (ν id)≠some b):=⟨aB _,λ_ _ _=>rfl,λ_ _ h=>h.1⟩
 have he:=h.fM id _ aF
 have gK:Rd w (λb=>M b∧dd (ν id)≠some b) (.slice e) [ν id] l:=by
  simp only[ER]at he
  simp only[Rd]
  rcases he with⟨rfl,a,hv⟩|⟨b,cs,t,cap,hv,hb,hM,hc,hl,zP,hs,hr⟩
  ·exact⟨a,0,by rw[hv];rfl,aB _,λi hi=>absurd hi (by simp)⟩
  ·refine⟨_,cap,by rw[hv],hl,λi hi=>⟨b,0,rfl,lt_of_block hb,λhm=>hm.2 (by rw[hv];simp[dd];omega),_,?_,(hr i hi).bm hk⟩⟩
   rw[dG]
   exact At.of_block hb _ _
 refine⟨λb=>M b∧dd (ν id)≠some b,⟨⟨λi e' hi=> ?_,λi j e1 e2 b ns hi hm hj fc=> ?_,λi e1 b hi hm=> ?_,λi e1 l1 b hi=> ?_,BG h.dT (λ_ _ _ _=>by simp),λb hb=>⟨h.sub b hb,λhm=>h.jE id e l b aF hm hb⟩,λb hb=>h.xT b hb.1,h.frame,h.size,h.pI,h.os,h.tape,h.output⟩,hk,⟨λi e' hi=> ?_,λ_ _=>rfl⟩⟩,?_,λ_=>Iff.rfl⟩
 ·by_cases a7:i=id
  ·subst a7;rw[al]at hi;cases hi
   simp only[ER]
   refine⟨gK,?_⟩
   simp only[ER]at he
   rcases he with⟨rfl,a,hv⟩|⟨b,cs,t,cap,hv,_⟩
   ·exact .inl ⟨rfl,a,0,0,hv⟩
   ·exact .inr ⟨b,_,cap,hv⟩
  ·rw[aq _ _ a7]at hi
   refine(h.fM i e' hi).bm hk (λhm b hb=>⟨rfl,?_,?_⟩)
   ·exact(h.fM i e' hi).qj hm hb
   ·exact h.tt i id e' (.own e l) b a7 hi hm aF trivial hb
 ·by_cases a7:i=id
  ·subst a7;rw[al]at hi;cases hi;simp[aI.mut]at hm
  ·by_cases zQ:j=id
   ·subst zQ;rw[al]at hj;cases hj;simp[aI.mut]at fc
   ·rw[aq _ _ a7]at hi;rw[aq _ _ zQ]at hj;exact h.tt i j e1 e2 b ns hi hm hj fc
 ·by_cases a7:i=id
  ·subst a7;rw[al]at hi;cases hi;simp[aI.mut]at hm
  ·rw[aq _ _ a7]at hi;exact h.new i e1 b hi hm
 ·by_cases a7:i=id
  ·subst a7;rw[al]at hi;cases hi
  ·rw[aq _ _ a7]at hi;exact h.jE i e1 l1 b hi
 ·by_cases a7:i=id
  ·subst a7;rw[aF]at hi;cases hi;exact⟨_,al _ _ _,rfl,rfl⟩
  ·exact⟨e',by rw[aq _ _ a7];exact hi,.refl e'⟩
 ·unfold V;rw[af (by simp[Ty.isAgg])];exact gK
theorem Tr.fix{c:Ctx}{H:Nat→Option aI}{w:World}{M:Nat→Prop}{ν:Nat→Value}(h:Mem c H w M ν){id:Nat}{τ:Ty}{x:τ.den}(aF:H id=some (.obj τ x)):
  ∃M' b,Tr c H w M ν (a8 H id (some .gone)) w M' ν∧ν id= .pointer (some ⟨b,0,none⟩)∧b<w.heap.size∧ ¬M' b∧ ∃cs,At w b 0 cs∧Rd w M' τ cs x:=by
 have he:=h.fM id _ aF
 simp only[ER]at he
 obtain⟨b0,cs,t,hv,hb,hM,hr⟩:=he
 have wC:dd (ν id)=some b0:=by rw[hv];rfl
 have hk:dq w M w (λb=>M b∧b≠b0):=⟨aB _,λ_ _ _=>rfl,λ_ _ h=>h.1⟩
 have xU: ¬c.M0 b0:=λhm=>(h.new id _ b0 aF trivial wC).elim (λhB=>by have:=h.pI.1 b0 hm;omega) (λhB=>h.pI.2 b0 hB hm)
 refine⟨λb=>M b∧b≠b0,b0,⟨⟨λi e' hi=> ?_,λi j e1 e2 b ns hi hm hj fc=> ?_,λi e1 b hi hm=> ?_,λi e1 l1 b hi=> ?_,BG h.dT (λ_ _ _ _=>by simp),λb cY=>⟨h.sub b cY,λe=>xU (e▸cY)⟩,λb cY=>h.xT b cY.1,h.frame,h.size,h.pI,h.os,h.tape,h.output⟩,hk,⟨λi e' hi=> ?_,λ_ _=>rfl⟩⟩,hv,lt_of_block hb,λhm=>hm.2 rfl,cs.toList,?_,hr.bm hk⟩
 ·by_cases a7:i=id
  ·subst a7;rw[al]at hi;cases hi;simp[ER]
  ·rw[aq _ _ a7]at hi
   refine(h.fM i e' hi).bm hk (λhm b cY=>⟨rfl,?_,?_⟩)
   ·exact(h.fM i e' hi).qj hm cY
   ·intro e
    exact h.tt i id e' (.obj τ x) b a7 hi hm aF trivial cY (by rw[wC,e])
 ·by_cases a7:i=id
  ·subst a7;rw[al]at hi;cases hi;simp[aI.mut]at hm
  ·by_cases zQ:j=id
   ·subst zQ;rw[al]at hj;cases hj;simp[aI.mut]at fc
   ·rw[aq _ _ a7]at hi;rw[aq _ _ zQ]at hj;exact h.tt i j e1 e2 b ns hi hm hj fc
 ·by_cases a7:i=id
  ·subst a7;rw[al]at hi;cases hi;simp[aI.mut]at hm
  ·rw[aq _ _ a7]at hi;exact h.new i e1 b hi hm
 ·by_cases a7:i=id
  ·subst a7;rw[al]at hi;cases hi
  ·rw[aq _ _ a7]at hi;exact h.jE i e1 l1 b hi
 ·by_cases a7:i=id
  ·subst a7;rw[aF]at hi;cases hi;exact⟨_,al _ _ _,trivial⟩
  ·exact⟨e',by rw[aq _ _ a7];exact hi,.refl e'⟩
 ·have:=At.of_block hb 0 cs.toList.length
  rwa [bY,ni]at this
end VM
end
section
namespace VM
open Go
theorem xV(w:World)(o:Obj):(w.alloc o).heap[w.heap.size]? =some o:=by
 show(w.heap.push o)[w.heap.size]? =some o
 simp
theorem lX(w:World)(o:Obj){i:Nat}(h:i<w.heap.size):(w.alloc o).heap[i]? =w.heap[i]? :=by
 show(w.heap.push o)[i]? =w.heap[i]?
 rw[Array.getElem?_push,af (Nat.ne_of_lt h)]
theorem size_alloc(w:World)(o:Obj):(w.alloc o).heap.size=w.heap.size+1:=by
 show(w.heap.push o).size=_
 simp
def updν(ν:Nat→Value)(d:Nat)(v:Value):Nat→Value:=λi=>if i=d then v else ν i
theorem mC{c:Ctx}{H:Nat→Option aI}{w w':World}{M:Nat→Prop}{ν ν':Nat→Value}(h:Mem c H w M ν){H':Nat→Option aI}
  (hν: ∀i,H i≠none→ν' i=ν i) (hn: ∀i,H i≠none→H' i≠none)
  (hi: ∀i τ x p j,H' i=some (.dT τ x p j)→(H i=some (.dT τ x p j)∧ ∀b,ν i= .pointer (some ⟨b,0,none⟩)→w'.heap[b]? =w.heap[b]?)∨(H' j≠none∧ ∃b,ν' i= .pointer (some ⟨b,0,none⟩)∧w'.cell? ⟨b,bs p τ,none⟩=some (ν' j))):
  ∀i τ x p j,H' i=some (.dT τ x p j)→H' j≠none∧ ∃b,ν' i= .pointer (some ⟨b,0,none⟩)∧w'.cell? ⟨b,bs p τ,none⟩=some (ν' j):=by
 intro i τ x p j he
 rcases hi i τ x p j he with⟨h1,hb⟩|h1
 ·obtain⟨h2,b,h3,h4⟩:=h.dT i τ x p j h1
  refine⟨hn j h2,b,by rw[hν i (by rw[h1];simp)];exact h3,?_⟩
  rw[hν j h2,World.cell?_of_block (w:=w) (hb b h3)]
  exact h4
 ·exact h1
theorem qX{H:Nat→Option aI}{id:Nat}{v:aI}: ∀i,H i≠none→a8 H id (some v) i≠none:=λ_ h=>qW h
theorem tu{H:Nat→Option aI}{id:Nat}{v:aI}(hv: ∀τ x p j,v≠ .dT τ x p j){i:Nat}{τ:Ty}{x:τ.den}{p:List Step}{j:Nat}(h:a8 H id (some v) i=some (.dT τ x p j)):H i=some (.dT τ x p j):=by
 by_cases a7:i=id
 ·subst a7;rw[al]at h;cases h;exact absurd rfl (hv _ _ _ _)
 ·rw[aq _ _ a7]at h;exact h
theorem Tr.alloc{c:Ctx}{H:Nat→Option aI}{w:World}{M:Nat→Prop}{ν:Nat→Value}(h:Mem c H w M ν){id:Nat}(aF:H id=none)(o:Obj)(v:Value)(e:aI)(hm:e.mut)(AG: ∀τ x p j,e≠ .dT τ x p j)
  (hb:dd v=none∨dd v=some w.heap.size) (ID:ER (w.alloc o) (λb=>M b∨b=w.heap.size) v e):
  Tr c H w M ν (a8 H id (some e)) (w.alloc o) (λb=>M b∨b=w.heap.size) (updν ν id v):=by
 have hk:dq w M (w.alloc o) (λb=>M b∨b=w.heap.size):=
  ⟨by rw[size_alloc];omega,λb hb _=>lX w o hb,λb hb h'=>h'.resolve_right ω⟩
 have hν: ∀i,i≠id→updν ν id v i=ν i:=λi hi=>by simp[updν,hi]
 have hνs:updν ν id v id=v:=by simp[updν]
 have dv: ∀i e' b,H i=some e'→e'.mut→dd (ν i)=some b→b<w.heap.size:=λi e' b hi fc cY=>h.xT b ((h.fM i e' hi).qj fc cY)
 refine⟨⟨λi e' hi=> ?_,λi j e1 e2 b ns hi nN hj qY=> ?_,λi e1 b hi nN=> ?_,λi e1 l1 b hi=> ?_,mC h (λi hi=>hν i (λe=>hi (e▸aF))) qX (λi τ x p j hi=> .inl ⟨tu AG hi,λb hb=>lX w o (dv i _ b (tu AG hi) trivial (by rw[hb];rfl))⟩),λb hb=> .inl (h.sub b hb),λb cY=> ?_,λb jF sd=> ?_,?_,h.pI,h.os,h.tape,h.output⟩,hk,⟨λi e' hi=> ?_,λi hi=> ?_⟩⟩
 ·by_cases a7:i=id
  ·subst a7;rw[al]at hi;cases hi;rw[hνs];exact ID
  ·rw[aq _ _ a7]at hi;rw[hν i a7]
   exact(h.fM i e' hi).bm hk λfc b cY=>⟨lX w o (dv i e' b hi fc cY),.inl ((h.fM i e' hi).qj fc cY)⟩
 ·by_cases a7:i=id
  ·subst a7;rw[al]at hi;cases hi;rw[hνs]
   intro jF
   have zQ:j≠i:=cZ ns
   rw[aq _ _ zQ]at hj;rw[hν j zQ]
   intro sd
   have:=dv j e2 b hj qY sd
   rcases hb with hb|hb<;>rw[hb]at jF<;>simp at jF
   omega
  ·rw[aq _ _ a7]at hi;rw[hν i a7]
   by_cases zQ:j=id
   ·subst zQ;rw[hνs]
    intro jF sd
    have:=dv i e1 b hi nN jF
    rcases hb with hb|hb<;>rw[hb]at sd<;>simp at sd
    omega
   ·rw[aq _ _ zQ]at hj;rw[hν j zQ];exact h.tt i j e1 e2 b ns hi nN hj qY
 ·by_cases a7:i=id
  ·subst a7;rw[hνs]
   intro jF
   rcases hb with hb|hb<;>rw[hb]at jF<;>simp at jF
   subst jF;exact .inl h.size
  ·rw[aq _ _ a7]at hi;rw[hν i a7];exact h.new i e1 b hi nN
 ·by_cases a7:i=id
  ·subst a7;rw[hνs]
   intro jF h0
   rcases hb with hb|hb<;>rw[hb]at jF<;>simp at jF
   have:=h.pI.1 b h0
   have:=h.size
   omega
  ·rw[aq _ _ a7]at hi;rw[hν i a7];exact h.jE i e1 l1 b hi
 ·rw[size_alloc]
  rcases cY with cY|cY
  ·have:=h.xT b cY;omega
  ·omega
 ·rw[lX w o (ka jF h.size)];exact h.frame b jF sd
 ·rw[size_alloc];have:=h.size;omega
 ·by_cases a7:i=id
  ·subst a7;rw[aF]at hi;cases hi
  ·exact⟨e',by rw[aq _ _ a7];exact hi,.refl e'⟩
 ·have a7:i≠id:=λe=>hi (e▸aF)
  exact hν i a7
theorem Tr.var{c:Ctx}{H:Nat→Option aI}{w:World}{M:Nat→Prop}{ν:Nat→Value}(h:Mem c H w M ν){id:Nat}(aF:H id=none)(t:TypeId){τ:Ty}{cs:Array Value}{x:τ.den}(hr:Rd w M τ cs.toList x):
  Tr c H w M ν (a8 H id (some (.obj τ x))) (w.alloc (.cells cs t)) (λb=>M b∨b=w.heap.size) (updν ν id (.pointer (some ⟨w.heap.size,0,none⟩))):=by
 refine Tr.alloc h aF _ _ _ trivial (λ_ _ _ _=>by simp) (.inr rfl) ?_
 simp only[ER]
 have hk:dq w M (w.alloc (.cells cs t)) (λb=>M b∨b=w.heap.size):=
  ⟨by rw[size_alloc];omega,λb hb _=>lX w _ hb,λb hb h'=>h'.resolve_right ω⟩
 exact⟨w.heap.size,cs,t,rfl,xV w _,.inr rfl,hr.bm hk⟩
theorem Tr.row{c:Ctx}{H:Nat→Option aI}{w:World}{M:Nat→Prop}{ν:Nat→Value}(h:Mem c H w M ν){id:Nat}(aF:H id=none)(t:TypeId){e:Ty}{cs:Array Value}{l:List e.den}{cap:Nat}
  (hl:l.length≤cap) (hm:cap≤maxLen) (hs:cs.size=cap*e.size) (hr: ∀i (hi:i<l.length),Rd w M e ((cs.toList.drop (i*e.size)).take e.size) l[i]):
  Tr c H w M ν (a8 H id (some (.own e l))) (w.alloc (.cells cs t)) (λb=>M b∨b=w.heap.size) (updν ν id (.slice (some ⟨w.heap.size,0,none⟩) l.length cap)):=by
 have hk:dq w M (w.alloc (.cells cs t)) (λb=>M b∨b=w.heap.size):=
  ⟨by rw[size_alloc];omega,λb hb _=>lX w _ hb,λb hb h'=>h'.resolve_right ω⟩
 refine Tr.alloc h aF _ _ _ trivial (λ_ _ _ _=>by simp) ?_ ?_
 ·simp only[dd];split
  ·exact .inl rfl
  ·exact .inr rfl
 ·simp only[ER]
  by_cases hc:cap=0
  ·subst hc
   have hl0:l=[]:=oy ω
   subst hl0
   exact .inl ⟨rfl,_,rfl⟩
  ·exact .inr ⟨w.heap.size,cs,t,cap,rfl,xV w _,.inr rfl,ω,hl,hm,hs,λi hi=>(hr i hi).bm hk⟩
theorem Tr.drew{c:Ctx}{H:Nat→Option aI}{w:World}{M:Nat→Prop}{ν:Nat→Value}(h:Mem c H w M ν):Tr c H w M ν H w.drew M ν:=by
 have hk:dq w M w.drew M:=⟨aB _,λ_ _ _=>rfl,λ_ _ h=>h⟩
 exact⟨⟨λi e he=>(h.fM i e he).bm hk λhm b hb=>⟨rfl,(h.fM i e he).qj hm hb⟩,h.tt,h.new,h.jE,h.dT,h.sub,h.xT,h.frame,h.size,h.pI,h.os,h.tape,h.output⟩,hk,.refl H ν⟩
theorem size_setRow(w:World)(g:Nat)(cs:Array Value):(w.setRow g cs).heap.size=w.heap.size:=by simp[World.setRow]
theorem Tr.write{c:Ctx}{H:Nat→Option aI}{w:World}{M:Nat→Prop}{ν:Nat→Value}(h:Mem c H w M ν){id:Nat}{e e':aI}(aF:H id=some e)(hm:e.mut)(fc:e'.mut)(hl:e.gR e')
  {b:Nat} (hb:dd (ν id)=some b) {cs new:Array Value} {t:TypeId} (hg:w.heap[b]? =some (.cells cs t (0,0)))
  (ID: ∀M',dq w M (w.setRow b new) M'→M' b→ER (w.setRow b new) M' (ν id) e')
  (lB: ∀τ x p j,e'= .dT τ x p j→H j≠none∧ ∃b',ν id= .pointer (some ⟨b',0,none⟩)∧(w.setRow b new).cell? ⟨b',bs p τ,none⟩=some (ν j):=by intro _ _ _ _ h;cases h):
  Tr c H w M ν (a8 H id (some e')) (w.setRow b new) M ν:=by
 have R0:M b:=(h.fM id e aF).qj hm hb
 have hk:dq w M (w.setRow b new) M:=
  ⟨by rw[size_setRow];exact aB _,λb' _ hm=>setRow_other w b b' new (λe=>hm (e▸R0)),λ_ _ h=>h⟩
 refine⟨⟨λi e1 hi=> ?_,λi j e1 e2 b1 ns hi nN hj qY=> ?_,λi e1 b1 hi nN=> ?_,λi e1 l1 b1 hi=> ?_,mC h (λ_ _=>rfl) qX (λi τ x p j hi=> ?_),h.sub,λb1 jF=>by rw[size_setRow];exact h.xT b1 jF,λb1 jF sd=> ?_,by rw[size_setRow];exact h.size,h.pI,h.os,h.tape,h.output⟩,hk,⟨λi e1 hi=> ?_,λi hi=>rfl⟩⟩
 ·by_cases a7:i=id
  ·subst a7;rw[al]at hi;cases hi;exact ID M hk R0
  ·rw[aq _ _ a7]at hi
   exact(h.fM i e1 hi).bm hk λnN b1 jF=>⟨setRow_other w b b1 new (λe'=>h.tt i id e1 e b1 a7 hi nN aF hm jF (e'▸hb)),(h.fM i e1 hi).qj nN jF⟩
 ·by_cases a7:i=id
  ·subst a7;rw[al]at hi;cases hi
   have zQ:j≠i:=cZ ns
   rw[aq _ _ zQ]at hj
   exact h.tt i j e e2 b1 ns aF hm hj qY
  ·rw[aq _ _ a7]at hi
   by_cases zQ:j=id
   ·subst zQ;exact h.tt i j e1 e b1 ns hi nN aF hm
   ·rw[aq _ _ zQ]at hj;exact h.tt i j e1 e2 b1 ns hi nN hj qY
 ·by_cases a7:i=id
  ·subst a7;exact h.new i e b1 aF hm
  ·rw[aq _ _ a7]at hi;exact h.new i e1 b1 hi nN
 ·by_cases a7:i=id
  ·subst a7;rw[al]at hi;cases hi
   cases e with
   |own e0 l0=>exact h.jE i e0 l0 b1 aF
   |obj _ _=>simp[aI.gR]at hl
   |dT _ _ _ _=>simp[aI.gR]at hl
   |ke _ _=>simp[aI.mut]at hm
   |gone=>simp[aI.mut]at hm
  ·rw[aq _ _ a7]at hi;exact h.jE i e1 l1 b1 hi
 ·by_cases a7:i=id
  ·subst a7;rw[al]at hi;cases hi
   obtain⟨h1,h2⟩:=lB _ _ _ _ rfl
   exact .inr ⟨qW h1,h2⟩
  ·rw[aq _ _ a7]at hi
   exact .inl ⟨hi,λb1 jF=>setRow_other w b b1 new (λe1=>h.tt i id _ e b1 a7 hi trivial aF hm (by rw[jF];rfl) (e1▸hb))⟩
 ·rw[setRow_other w b b1 new]
  ·exact h.frame b1 jF sd
  ·intro hbb;subst hbb
   rcases h.new id e b1 aF hm hb with h'|h'
   ·omega
   ·exact sd h'
 ·by_cases a7:i=id
  ·subst a7;rw[aF]at hi;cases hi;exact⟨e',al _ _ _,hl⟩
  ·exact⟨e1,by rw[aq _ _ a7];exact hi,.refl e1⟩
theorem Tr.rename{c:Ctx}{H:Nat→Option aI}{w:World}{M:Nat→Prop}{ν:Nat→Value}(h:Mem c H w M ν){j id:Nat}{e e':Ty}{l:List e.den}{l':List e'.den}(hj:H j=some (.own e l))(aF:H id=none)
  {v:Value} (hb:dd v=none∨dd v=dd (ν j)) (ID:ER w M v (.own e' l')):
  Tr c H w M ν (a8 (a8 H j (some .gone)) id (some (.own e' l'))) w M (updν ν id v):=by
 have gY:j≠id:=λe=>by rw[e,aF]at hj;cases hj
 have h1:=(Tr.gone h j).mem
 have k6:a8 H j (some .gone) id=none:=by rw[aq _ _ (cZ gY)];exact aF
 have hν: ∀i,i≠id→updν ν id v i=ν i:=λi hi=>by simp[updν,hi]
 have hνs:updν ν id v id=v:=by simp[updν]
 refine⟨⟨λi e1 hi=> ?_,λi k e1 e2 b1 ns hi nN hk qY=> ?_,λi e1 b1 hi nN=> ?_,λi e1 l1 b1 hi=> ?_,mC h1 (λi hi=>hν i (λe=>hi (e▸k6))) qX (λi τ x p j hi=> .inl ⟨tu (λ_ _ _ _=>by simp) hi,λ_ _=>rfl⟩),h.sub,h.xT,h.frame,h.size,h.pI,h.os,h.tape,h.output⟩,.refl w M,⟨λi e1 hi=> ?_,λi hi=> ?_⟩⟩
 ·by_cases a7:i=id
  ·subst a7;rw[al]at hi;cases hi;rw[hνs];exact ID
  ·rw[aq _ _ a7]at hi;rw[hν i a7];exact h1.fM i e1 hi
 ·by_cases a7:i=id
  ·subst a7;rw[al]at hi;cases hi;rw[hνs]
   have Ds:k≠i:=cZ ns
   rw[aq _ _ Ds]at hk;rw[hν k Ds]
   intro jF
   rcases hb with hb|hb
   ·rw[hb]at jF;cases jF
   ·rw[hb]at jF
    by_cases ZX:k=j
    ·subst ZX;rw[al]at hk;cases hk;simp[aI.mut]at qY
    ·rw[aq _ _ ZX]at hk;exact h.tt j k _ e2 b1 (cZ ZX) hj trivial hk qY jF
  ·rw[aq _ _ a7]at hi;rw[hν i a7]
   by_cases Ds:k=id
   ·subst Ds;rw[hνs]
    intro jF sd
    rcases hb with hb|hb
    ·rw[hb]at sd;cases sd
    ·rw[hb]at sd
     by_cases z8:i=j
     ·subst z8;rw[al]at hi;cases hi;simp[aI.mut]at nN
     ·rw[aq _ _ z8]at hi;exact h.tt j i _ e1 b1 (cZ z8) hj trivial hi nN sd jF
   ·rw[aq _ _ Ds]at hk;rw[hν k Ds];exact h1.tt i k e1 e2 b1 ns hi nN hk qY
 ·by_cases a7:i=id
  ·subst a7;rw[hνs];intro jF
   rcases hb with hb|hb
   ·rw[hb]at jF;cases jF
   ·rw[hb]at jF;exact h.new j _ b1 hj trivial jF
  ·rw[aq _ _ a7]at hi;rw[hν i a7];exact h1.new i e1 b1 hi nN
 ·by_cases a7:i=id
  ·subst a7;rw[hνs];intro jF
   rcases hb with hb|hb
   ·rw[hb]at jF;cases jF
   ·rw[hb]at jF;exact h.jE j e l b1 hj jF
  ·rw[aq _ _ a7]at hi;rw[hν i a7];exact h1.jE i e1 l1 b1 hi
 ·by_cases z8:i=j
  ·subst z8;exact⟨.gone,by rw[aq _ _ gY,al],by cases e1<;>simp[aI.gR]⟩
  ·have a7:i≠id:=λe=>by rw[e,aF]at hi;cases hi
   exact⟨e1,by rw[aq _ _ a7,aq _ _ z8];exact hi,.refl e1⟩
 ·exact hν i (λe=>hi (e▸aF))
theorem Tr.V1{c:Ctx}{H:Nat→Option aI}{w:World}{M:Nat→Prop}{ν:Nat→Value}(h:Mem c H w M ν){id:Nat}{e e':aI}(aF:H id=some e)(hm:e.mut)(fc:e'.mut)(hl:e.gR e')(mD: ∀e0 l0,e'≠ .own e0 l0)
  (ID:ER w M (ν id) e') (lB: ∀τ x p j,e'= .dT τ x p j→H j≠none∧ ∃b',ν id= .pointer (some ⟨b',0,none⟩)∧w.cell? ⟨b',bs p τ,none⟩=some (ν j)):
  Tr c H w M ν (a8 H id (some e')) w M ν:=by
 refine⟨⟨λi e1 hi=> ?_,λi j e1 e2 b1 ns hi nN hj qY=> ?_,λi e1 b1 hi nN=> ?_,λi e1 l1 b1 hi=> ?_,mC h (λ_ _=>rfl) qX (λi τ x p j hi=> ?_),h.sub,h.xT,h.frame,h.size,h.pI,h.os,h.tape,h.output⟩,.refl w M,⟨λi e1 hi=> ?_,λi hi=>rfl⟩⟩
 ·by_cases a7:i=id
  ·subst a7;rw[al]at hi;cases hi;exact ID
  ·rw[aq _ _ a7]at hi;exact h.fM i e1 hi
 ·by_cases a7:i=id
  ·subst a7;rw[al]at hi;cases hi
   have zQ:j≠i:=cZ ns
   rw[aq _ _ zQ]at hj
   exact h.tt i j e e2 b1 ns aF hm hj qY
  ·rw[aq _ _ a7]at hi
   by_cases zQ:j=id
   ·subst zQ;exact h.tt i j e1 e b1 ns hi nN aF hm
   ·rw[aq _ _ zQ]at hj;exact h.tt i j e1 e2 b1 ns hi nN hj qY
 ·by_cases a7:i=id
  ·subst a7;exact h.new i e b1 aF hm
  ·rw[aq _ _ a7]at hi;exact h.new i e1 b1 hi nN
 ·by_cases a7:i=id
  ·subst a7;rw[al]at hi;cases hi;exact absurd rfl (mD _ _)
  ·rw[aq _ _ a7]at hi;exact h.jE i e1 l1 b1 hi
 ·by_cases a7:i=id
  ·subst a7;rw[al]at hi;cases hi
   obtain⟨h1,h2⟩:=lB _ _ _ _ rfl
   exact .inr ⟨qW h1,h2⟩
  ·rw[aq _ _ a7]at hi;exact .inl ⟨hi,λ_ _=>rfl⟩
 ·by_cases a7:i=id
  ·subst a7;rw[aF]at hi;cases hi;exact⟨e',al _ _ _,hl⟩
  ·exact⟨e1,by rw[aq _ _ a7];exact hi,.refl e1⟩
theorem Tr.nothing{c:Ctx}{w:World}{M:Nat→Prop}{ν:Nat→Value}{H:Nat→Option aI}(h:Mem c H w M ν){id:Nat}(aF:H id=none)(e:Ty)(ad:Option Addr):
  Tr c H w M ν (a8 H id (some (.own e []))) w M (updν ν id (.slice ad 0 0)):=by
 have hν: ∀i,i≠id→updν ν id (.slice ad 0 0) i=ν i:=λi hi=>by simp[updν,hi]
 have hνs:updν ν id (.slice ad 0 0) id= .slice ad 0 0:=by simp[updν]
 have hb:dd (.slice ad 0 0)=none:=by cases ad<;>simp[dd]
 refine⟨⟨λi e1 hi=> ?_,λi k e1 e2 b1 ns hi nN hk qY=> ?_,λi e1 b1 hi nN=> ?_,λi e1 l1 b1 hi=> ?_,mC h (λi hi=>hν i (λe=>hi (e▸aF))) qX (λi τ x p j hi=> .inl ⟨tu (λ_ _ _ _=>by simp) hi,λ_ _=>rfl⟩),h.sub,h.xT,h.frame,h.size,h.pI,h.os,h.tape,h.output⟩,.refl w M,⟨λi e1 hi=> ?_,λi hi=>hν i (λe=>hi (e▸aF))⟩⟩
 ·by_cases a7:i=id
  ·subst a7;rw[al]at hi;cases hi;rw[hνs];simp only[ER];exact .inl ⟨trivial,ad,rfl⟩
  ·rw[aq _ _ a7]at hi;rw[hν i a7];exact h.fM i e1 hi
 ·by_cases a7:i=id
  ·subst a7;rw[hνs,hb];intro h';cases h'
  ·rw[aq _ _ a7]at hi;rw[hν i a7]
   by_cases Ds:k=id
   ·subst Ds;rw[hνs,hb];intro _ h';cases h'
   ·rw[aq _ _ Ds]at hk;rw[hν k Ds];exact h.tt i k e1 e2 b1 ns hi nN hk qY
 ·by_cases a7:i=id
  ·subst a7;rw[hνs,hb];intro h';cases h'
  ·rw[aq _ _ a7]at hi;rw[hν i a7];exact h.new i e1 b1 hi nN
 ·by_cases a7:i=id
  ·subst a7;rw[hνs,hb];intro h';cases h'
  ·rw[aq _ _ a7]at hi;rw[hν i a7];exact h.jE i e1 l1 b1 hi
 ·have a7:i≠id:=λe=>by rw[e,aF]at hi;cases hi
  exact⟨e1,by rw[aq _ _ a7];exact hi,.refl e1⟩
end VM
end
section
namespace VM
open Go
theorem aJ{α:Type}{υ τ:Ty}{y:υ.den}{k:τ.den→Option α}{r:α}(h:bw υ τ y k=some r): ∃e:υ=τ,k (e▸y)=some r:=by
 unfold bw at h
 split at h
 ·rename_i e;exact⟨e,h⟩
 ·cases h
theorem cy{α:Type}{υ τ:Ty}{k:Option α}{r:α}(h:fg υ τ k=some r):υ=τ∧k=some r:=by
 unfold fg at h
 split at h
 ·rename_i e;exact⟨e,h⟩
 ·cases h
theorem V.slice{w:World}{M:Nat→Prop}{e:Ty}{v:Value}{l:List e.den}:V w M (.slice e) v l↔Rd w M (.slice e) [v] l:=by
 unfold V;rw[af (by simp[Ty.isAgg])]
def Fz(H H1:Nat→Option aI):Prop:= ∀i,H1 i=H i∨ ∃e l,H i=some (.own e l)∧H1 i=some (.ke e l)
theorem Fz.refl(H:Nat→Option aI):Fz H H:=λ_=> .inl rfl
theorem Fz.none{H H1:Nat→Option aI}(h:Fz H H1){i:Nat}(hi:H i=none):H1 i=none:=by
 rcases h i with h'|⟨e,l,h',_⟩
 ·rw[h',hi]
 ·rw[hi]at h';cases h'
theorem Fz.obj{H H1:Nat→Option aI}(h:Fz H H1){i:Nat}{τ:Ty}{x:τ.den}(hi:H i=some (.obj τ x)):H1 i=some (.obj τ x):=by
 rcases h i with h'|⟨e,l,h',_⟩
 ·rw[h',hi]
 ·rw[hi]at h';cases h'
theorem uD{H:Nat→Option aI}{id:Nat}{e:Option aI}(h:H id=e):a8 H id e=H:=by
 funext i
 by_cases hi:i=id
 ·subst hi;rw[al,h]
 ·rw[aq _ _ hi]
theorem gC{α:Type}{c:Ctx}{H H1:Nat→Option aI}{w:World}{M:Nat→Prop}{ν:Nat→Value}(hz:Fz H H1)(hm:Mem c H1 w M ν){a:aM}{v:Value}(hv:VR w M H1 ν a v){τ:Ty}
  {k:τ.den→List Nat→fu→Option α} {r:α} (h:iH true a H τ k=some r):
  ∃y rd ups M',k y rd ups=some r∧Tr c H1 w M ν (bM H1 ups) w M' ν∧V w M' τ v y∧Fz H (bM H1 ups)∧ ∀i,rd.contains i=false→bM H1 ups i=H1 i:=by
 unfold iH at h
 split at h
 ·
  obtain⟨e,h⟩:=aJ h
  subst e
  simp only[VR]at hv
  exact⟨_,[],[],M,h,.refl hm,hv,hz,λ_ _=>rfl⟩
 ·
  obtain⟨e,h⟩:=aJ h
  subst e
  simp only[VR]at hv
  exact⟨_,[],[],M,h,.refl hm,hv.1,hz,λ_ _=>rfl⟩
 ·
  split at h
  ·rename_i e k' _
   simp only[VR]at hv
   obtain⟨a,rfl⟩:=hv
   refine⟨[],[],[],M,h,.refl hm,V.slice.2 ?_,hz,λ_ _=>rfl⟩
   simp only[Rd]
   exact⟨a,0,rfl,aB _,λi hi=>absurd hi (by simp)⟩
  ·cases h
 ·rename_i id
  simp only[VR]at hv
  obtain⟨_,rfl⟩:=hv
  split at h
  ·rename_i e l aF
   obtain⟨e',h⟩:=aJ h
   subst e'
   rcases hz id with h1|⟨e1,l1,h1,h2⟩
   ·rw[aF]at h1
    obtain⟨M',dP,hV,_⟩:=Tr.freeze hm h1
    refine⟨_,_,_,M',h,dP,hV,λi=> ?_,λi hi=>aq _ _ (by simpa using hi)⟩
    show a8 H1 id (some (.ke e l)) i=H i∨_
    by_cases hi:i=id
    ·subst hi;exact .inr ⟨e,l,aF,al _ _ _⟩
    ·rw[aq _ _ hi]
     rcases hz i with h'|⟨e2,l2,h2,h3⟩
     ·exact .inl h'
     ·exact .inr ⟨e2,l2,h2,by show a8 H1 id _ i=_;rw[aq _ _ hi];exact h3⟩
   ·rw[aF]at h1;cases h1
    have:=hm.fM id _ h2
    simp only[ER]at this
    refine⟨_,_,[(id,some (.ke e l))],M,h,?_,V.slice.2 this.1,?_,λi hi=>aq _ _ (by simpa using hi)⟩
    ·show Tr c H1 w M ν (a8 H1 id (some (.ke e l))) w M ν
     rw[uD h2];exact .refl hm
    ·show Fz H (a8 H1 id (some (.ke e l)))
     rw[uD h2];exact hz
  ·rename_i e l aF
   obtain⟨e',h⟩:=aJ h
   subst e'
   have h1:H1 id=some (.ke e l):=by
    rcases hz id with h1|⟨e1,l1,h1,h2⟩
    ·rw[h1,aF]
    ·rw[aF]at h1;cases h1
   have:=hm.fM id _ h1
   simp only[ER]at this
   exact⟨_,_,_,M,h,.refl hm,V.slice.2 this.1,hz,λ_ _=>rfl⟩
  ·cases h
 ·cases h
def Src(w:World)(M:Nat→Prop)(e:Ty)(v:Value)(l:List e.den):Prop:=
 ∃a cap,v= .slice a l.length cap∧ ∀i (h:i<l.length),∃b off cs,a=some ⟨b,off,none⟩∧At w b (off+i*e.size) cs∧Rd w M e cs l[i]
theorem Src.NA{w:World}{M:Nat→Prop}{e:Ty}{v:Value}{l:List e.den}(h:V w M (.slice e) v l):Src w M e v l:=by
 have h:=V.slice.1 h
 simp only[Rd,dx,dR]at h
 obtain⟨a,cap,rfl,_,hr⟩:=h
 refine⟨a,cap,rfl,λi hi=> ?_⟩
 obtain⟨b,off,ha,_,_,cs,m2,gK⟩:=hr i hi
 exact⟨b,off,cs,ha,m2,gK⟩
theorem vz{α:Type}{c:Ctx}{H:Nat→Option aI}{w:World}{M:Nat→Prop}{ν:Nat→Value}(hm:Mem c H w M ν){a:aM}{v:Value}(hv:VR w M H ν a v){e:Ty}
  {k:List e.den→List Nat→fu→Option α} {r:α} (h:iH false a H (.slice e) k=some r):
  ∃y rd,k y rd []=some r∧Src w M e v y:=by
 unfold iH at h
 split at h
 ·obtain⟨e',h⟩:=aJ h
  subst e'
  simp only[VR]at hv
  exact⟨_,[],h,.NA hv⟩
 ·obtain⟨e',h⟩:=aJ h
  subst e'
  simp only[VR]at hv
  exact⟨_,[],h,.NA hv.1⟩
 ·have h:k [] [] []=some r:=h
  simp only[VR]at hv
  obtain⟨a,rfl⟩:=hv
  exact⟨[],[],h,a,0,rfl,λi hi=>absurd hi (by simp)⟩
 ·rename_i id
  simp only[VR]at hv
  obtain⟨_,rfl⟩:=hv
  split at h
  ·rename_i e1 l aF
   obtain⟨e',h⟩:=aJ h
   cases e'
   refine⟨_,_,h,?_⟩
   have:=hm.fM id _ aF
   simp only[ER]at this
   rcases this with⟨rfl,a,hv⟩|⟨b,cs,t,cap,hv,hb,hM,hc,hl,zP,hs,hr⟩
   ·exact⟨a,0,hv,λi hi=>absurd hi (by simp)⟩
   ·refine⟨_,cap,hv,λi hi=>⟨b,0,_,rfl,?_,hr i hi⟩⟩
    rw[dG]
    exact At.of_block hb _ _
  ·rename_i e1 l aF
   obtain⟨e',h⟩:=aJ h
   cases e'
   have:=hm.fM id _ aF
   simp only[ER]at this
   exact⟨_,_,h,.NA (V.slice.2 this.1)⟩
  ·cases h
 ·cases h
theorem Src.cells{w:World}{M:Nat→Prop}{e:Ty}{v:Value}{l:List e.den}(h:Src w M e v l)(gY:l≠[]):
  ∃b off cap news,v= .slice (some ⟨b,off,none⟩) l.length cap∧news.length=l.length*e.size∧At w b off news∧
   (∀i (hi:i<l.length),Rd w M e ((news.drop (i*e.size)).take e.size) l[i])∧ ∀u∈news,u.oneCell'=true:=by
 obtain⟨a,cap,rfl,hr⟩:=h
 have h0:0<l.length:=qS.2 gY
 obtain⟨b,off,_,ha,_⟩:=hr 0 h0
 subst ha
 have key: ∀n,n≤l.length→ ∃news:List Value,news.length=n*e.size∧At w b off news∧
   (∀i (hi:i<l.length),i<n→Rd w M e ((news.drop (i*e.size)).take e.size) l[i])∧ ∀u∈news,u.oneCell'=true:=by
  intro n
  induction n with
  |zero=>exact λ_=>⟨[],by simp,λj v hj=>by simp at hj,λi _ hi=>ω,by simp⟩
  |succ n ih=>
   intro hn
   obtain⟨news,hl,m2,gK,uE⟩:=ih ω
   obtain⟨b',afu,cs,ha,aat,IE⟩:=hr n ω
   cases ha
   refine⟨news++cs,by rw[aC,hl,IE.length,cI,gw],At.append.2 ⟨m2,by rw[hl];exact aat⟩,λi hi hJ=> ?_,λu hu=> ?_⟩
   ·by_cases dv:i<n
    ·have h1:(i+1)*e.size≤n*e.size:=gh _ dv
     rw[cI,gw]at h1
     rw[sP ω,qQ (by rw[dZ];omega)]
     exact gK i hi dv
    ·obtain rfl:i=n:=ω
     rw[kd hl,jf (by rw[IE.length];exact aB _)]
     exact IE
   ·rcases br.1 hu with hu|hu
    ·exact uE u hu
    ·exact IE.gO u hu
 obtain⟨news,hl,m2,gK,uE⟩:=key l.length (aB _)
 exact⟨b,off,cap,news,rfl,hl,m2,λi hi=>gK i hi hi,uE⟩
structure Core(c:Ctx)(σ:St)(tm:Array Value)(w:World)(M:Nat→Prop)(ν:Nat→Value):Prop where
 mem:Mem c σ.H w M ν
 tmp: ∀i,VR w M σ.H ν (σ.T i) (tm.getD i undef)
theorem IF(w:World)(M:Nat→Prop)(H:Nat→Option aI)(ν:Nat→Value)(v:Value):VR w M H ν (cvA v) v:=by
 unfold cvA
 split<;>simp[VR,V,Ty.isAgg,Rd]
theorem Core.op{c:Ctx}{σ:St}{tm:Array Value}{w:World}{M:Nat→Prop}{ν:Nat→Value}(h:Core c σ tm w M ν)(ds:List Deferred)(x:Operand):
  VR w M σ.H ν (σ.ρ x) (({tmps:=tm,defers:=ds}:Act).eval x):=by
 cases x with
 |tmp t=>exact h.tmp t
 |const v=>exact IF w M σ.H ν v
 |global g=>simp[St.ρ,VR]
 |func f=>simp[St.ρ,VR,fH,Act.eval]
def V2(P:Program)(t:TypeId)(τ:Ty):Prop:=
 ∀(w:World) (M:Nat→Prop) (u v:Value) (x y:τ.den) (b:BinOp) (xo yo:Operand),V w M τ u x→V w M τ v y→
  (eqGuard b t xo yo u v).run P w= .ok () w∧(binOp .eql t u v).run P w= .ok (.bool (k5 τ x y)) w∧(binOp .neq t u v).run P w= .ok (.bool (!k5 τ x y)) w
structure EnvTy(P:Program)(E:Env):Prop where
 ty: ∀t τ,E.ty t=some τ→gA P τ t
 eq: ∀t τ,E.ty t=some τ→τ.comparable=true→τ.isAgg=true→V2 P t τ
end VM
end
section
namespace VM
open Go
variable{P:Program}
theorem tv{o:Oper}{ρ:Operand→Value}{t:TypeId}{i:TypeInfo}{z:Value}(ho:o.op= .alloc t)(hi:P.info? t=some i)(hz:i.zero=some z)(w:World):
  (execOp ρ o).run P w= .ok (.value (.pointer (some ⟨w.heap.size,0,none⟩))) (w.alloc (.cells z.cells t)):=by
 simp[execOp,ho,Instr.alloc,zeroValue,typeInfo,hi,hz,newVar,newRow]
theorem xW{o:Oper}{ρ:Operand→Value}{t:TypeId}{x:Operand}(ho:o.op= .box t x)(w:World):
  (execOp ρ o).run P w= .ok (.value (.pointer (some ⟨w.heap.size,0,none⟩))) (w.alloc (.cells (ρ x).cells t)):=by
 simp[execOp,ho,Instr.box,newVar,newRow]
theorem lY{τ:Ty}{t:TypeId}(h:gA P τ t)(w:World):(isAgg t).run P w= .ok τ.isAgg w:=by
 unfold gA at h
 cases τ<;>simp only[dN]at h
 ·simp[isAgg,run_underlying h.2,Ty.isAgg]
 ·simp[isAgg,run_underlying h.2,Ty.isAgg]
 ·simp[isAgg,run_underlying h.2,Ty.isAgg]
 ·obtain⟨_,e',h',_⟩:=h;simp[isAgg,run_underlying h',Ty.isAgg]
 ·obtain⟨_,e',h',_⟩:=h;simp[isAgg,run_underlying h',Ty.isAgg]
 ·obtain⟨_,e',f,h',_⟩:=h;simp[isAgg,run_underlying h',Ty.isAgg]
 ·obtain⟨_,e',h',_⟩:=h;simp[isAgg,run_underlying h',Ty.isAgg]
theorem cc{τ:Ty}{t:TypeId}(h:gA P τ t)(w:World):(Go.sizeOf t).run P w= .ok τ.size w:=by
 obtain⟨i,hi,hs,_⟩:=h.base
 simp[Go.sizeOf,typeInfo,hi,hs]
theorem vA{w:World}{M:Nat→Prop}{τ:Ty}{t:TypeId}(h:gA P τ t){b off:Nat}{cs:List Value}{x:τ.den}(ha:At w b off cs)(hr:Rd w M τ cs x):
  (loadVar t ⟨b,off,none⟩).run P w= .ok (aZ τ cs) w:=by
 have hl:(loadCells ⟨b,off,none⟩ τ.size).run P w= .ok cs.toArray w:=by
  rw[←hr.length]
  exact run_loadCells_list w _ cs λj v hj=>by rw[show(⟨b,off,none⟩:Addr).add j=⟨b,off+j,none⟩from by unfold Addr.add;split<;>simp_all];exact ha j v hj
 unfold aZ
 by_cases xX:τ.isAgg=true
 ·simp[loadVar,lY h,xX,cc h,hl]
 ·obtain⟨v,rfl,hc⟩:=hr.scalar (by simpa using xX)
  have h0:=ha 0 v rfl
  simp only[ik]at h0
  simp[loadVar,lY h,xX,load,Sem.run,h0]
theorem vB{w:World}{τ:Ty}{t:TypeId}(h:gA P τ t)(xX:τ.isAgg=true){b off:Nat}{cs:List Value}(ha:At w b off cs)(hl:cs.length=τ.size):
  (loadVar t ⟨b,off,none⟩).run P w= .ok (.agg cs.toArray) w:=by
 have hl:(loadCells ⟨b,off,none⟩ τ.size).run P w= .ok cs.toArray w:=by
  rw[←hl]
  exact run_loadCells_list w _ cs λj v hj=>by rw[show(⟨b,off,none⟩:Addr).add j=⟨b,off+j,none⟩from by unfold Addr.add;split<;>simp_all];exact ha j v hj
 simp[loadVar,lY h,xX,cc h,hl]
theorem xY{o:Oper}{ρ:Operand→Value}{t:TypeId}{x:Operand}(ho:o.op= .load t x){w:World}{τ:Ty}(h:gA P τ t)(xX:τ.isAgg=true){b off:Nat}{cs:List Value}
  (hx:ρ x= .pointer (some ⟨b,off,none⟩)) (ha:At w b off cs) (hl:cs.length=τ.size):
  (execOp ρ o).run P w= .ok (.value (.agg cs.toArray)) w:=by
 simp[execOp,ho,hx,Instr.loadAt,Instr.sureAddr,vB h xX ha hl]
theorem qk{o:Oper}{ρ:Operand→Value}{t:TypeId}{x:Operand}(ho:o.op= .load t x){w:World}{M:Nat→Prop}{τ:Ty}(h:gA P τ t){b off:Nat}{cs:List Value}{y:τ.den}
  (hx:ρ x= .pointer (some ⟨b,off,none⟩)) (ha:At w b off cs) (hr:Rd w M τ cs y):
  (execOp ρ o).run P w= .ok (.value (aZ τ cs)) w:=by
 simp[execOp,ho,hx,Instr.loadAt,Instr.sureAddr,vA h ha hr]
theorem gS{o:Oper}{ρ:Operand→Value}{t:TypeId}{x y:Operand}(ho:o.op= .store t x y){w:World}{τ:Ty}(h:gA P τ t){b off:Nat}{cur:Array Value}{te:TypeId}
  (hx:ρ x= .pointer (some ⟨b,off,none⟩)) (hg:w.heap[b]? =some (.cells cur te (0,0))) (hs:(ρ y).cells.size=τ.size) (hf:off+τ.size≤cur.size) (h1: ∀v∈(ρ y).cells.toList,v.oneCell'=true):
  (execOp ρ o).run P w= .ok .skip (w.setRow b (cur.toList.take off++(ρ y).cells.toList++cur.toList.drop (off+(ρ y).cells.toList.length)).toArray):=by
 have sM:=run_storeCells_at (P:=P) b off te (ρ y).cells.toList 0 cur w hg (by simp[hs];omega) h1
 simp only[ik]at sM
 simp[execOp,ho,hx,Instr.storeAt,Instr.sureAddr,storeVar,cc h,hs,sM]
theorem og{o:Oper}{ρ:Operand→Value}{t:TypeId}{x:Operand}{n:Nat}(ho:o.op= .fieldAddr t x n){w:World}{fs:Array Field}{f:Field}{b off:Nat}{υ:Ty}
  (hu:P.underlying t=some (.struct fs)) (hf:fs[n]? =some f) (hl:gA P υ f.type) (hz:υ.size≠0) (hx:ρ x= .pointer (some ⟨b,off,none⟩)):
  ∃a,(execOp ρ o).run P w= .ok (.value a) w∧a= .pointer (some ⟨b,off+f.offset,none⟩):=by
 refine⟨_,?_,rfl⟩
 simp[execOp,ho,hx,Instr.fieldAt,Instr.sureAddr,run_underlying hu,hf,fieldPlace,Addr.add_lit,cc hl,hz]
theorem tw{τ:Ty}{t:TypeId}(h:gA P τ t){w:World}{M:Nat→Prop}{cs:Array Value}{off:Nat}{x:τ.den}(hr:Rd w M τ ((cs.toList.drop off).take τ.size) x):
  (part t cs off).run P w= .ok (aZ τ ((cs.toList.drop off).take τ.size)) w:=by
 have hl:=hr.length
 unfold aZ
 by_cases xX:τ.isAgg=true
 ·simp only[part,Sem.run_bind,lY h,Result.andThen_ok,xX,fO,cc h]
  simp
  rw[bV,dZ,aG]at hl
  apply fE
  simp only[Array.toList_extract,List.extract_eq_take_drop,sU]
 ·obtain⟨v,hv,hc⟩:=hr.scalar (by simpa using xX)
  rw[hv]
  have h0:cs[off]? =some v:=by
   have:=cN (λl=>l[0]?) hv
   simp only[iA,iB]at this
   split at this
   ·simpa using this
   ·simp at this
  simp[part,lY h,xX,h0]
theorem BH{o:Oper}{ρ:Operand→Value}{t:TypeId}{x:Operand}{n:Nat}(ho:o.op= .field t x n){w:World}{M:Nat→Prop}{fs:Array Field}{f:Field}{cs:Array Value}{υ:Ty}{y:υ.den}
  (hu:P.underlying t=some (.struct fs)) (hf:fs[n]? =some f) (hl:gA P υ f.type) (hx:ρ x= .agg cs) (hr:Rd w M υ ((cs.toList.drop f.offset).take υ.size) y):
  (execOp ρ o).run P w= .ok (.value (aZ υ ((cs.toList.drop f.offset).take υ.size))) w:=by
 simp[execOp,ho,hx,Instr.field,run_underlying hu,hf,asAgg,tw hl hr]
theorem hO{o:Oper}{ρ:Operand→Value}{t e:TypeId}{x i:Operand}(ho:o.op= .indexAddr t x i){w:World}{τe:Ty}{b off len cap:Nat}{k:IntKind}{n:Int}
  (hu:P.underlying t=some (.slice e)) (he:gA P τe e) (hx:ρ x= .slice (some ⟨b,off,none⟩) len cap) (hi:ρ i= .int k n) (h0:0≤n) (h1:n<(len:Int)):
  (execOp ρ o).run P w= .ok (.value (.pointer (some ⟨b,off+n.toNat*τe.size,none⟩))) w:=by
 simp[execOp,ho,hx,hi,Instr.indexAt,asIntOf,run_underlying hu,h0,h1,cc he,Addr.add_lit]
theorem nu{o:Oper}{ρ:Operand→Value}{t e:TypeId}{x i:Operand}(ho:o.op= .indexAddr t x i){w:World}{τe:Ty}{b off len:Nat}{k:IntKind}{n:Int}
  (hu:P.underlying t=some (.array len e)) (he:gA P τe e) (hx:ρ x= .pointer (some ⟨b,off,none⟩)) (hi:ρ i= .int k n) (h0:0≤n) (h1:n<(len:Int)):
  (execOp ρ o).run P w= .ok (.value (.pointer (some ⟨b,off+n.toNat*τe.size,none⟩))) w:=by
 simp[execOp,ho,hx,hi,Instr.indexAt,Instr.sureAddr,asIntOf,run_underlying hu,h0,h1,cc he,Addr.add_lit]
theorem Aa{o:Oper}{ρ:Operand→Value}{t e:TypeId}{x i:Operand}(ho:o.op= .index t x i){w:World}{M:Nat→Prop}{τe:Ty}{len:Nat}{k:IntKind}{n:Int}{cs:Array Value}{y:τe.den}
  (hu:P.underlying t=some (.array len e)) (he:gA P τe e) (hx:ρ x= .agg cs) (hi:ρ i= .int k n) (h0:0≤n) (h1:n<(len:Int)) (hr:Rd w M τe ((cs.toList.drop (n.toNat*τe.size)).take τe.size) y):
  (execOp ρ o).run P w= .ok (.value (aZ τe ((cs.toList.drop (n.toNat*τe.size)).take τe.size))) w:=by
 simp[execOp,ho,hx,hi,Instr.index,asIntOf,run_underlying hu,h0,h1,cc he,tw he hr]
theorem xZ{o:Oper}{ρ:Operand→Value}{x:Operand}{n:Nat}(ho:o.op= .extract x n){w:World}{us:List Value}{v:Value}(hx:ρ x= .tuple us.toArray)(hv:us[n]? =some v):
  (execOp ρ o).run P w= .ok (.value v) w:=by
 simp[execOp,ho,hx,Instr.extract,hv]
theorem Dt{o:Oper}{ρ:Operand→Value}{x y z:Operand}(ho:o.op= .pick x y z){w:World}{b:Bool}(hx:ρ x= .bool b):
  (execOp ρ o).run P w= .ok (.value (if b then ρ y else ρ z)) w:=by
 simp[execOp,ho,hx,asBool]
theorem pq{o:Oper}{ρ:Operand→Value}{x:Operand}(ho:o.op= .nilCheck x){w:World}{a:Addr}(hx:ρ x= .pointer (some a)):
  (execOp ρ o).run P w= .ok (.value (.pointer (some a))) w:=by
 simp[execOp,ho,hx]
theorem wD{o:Oper}{ρ:Operand→Value}{f:FuncId}{first my:Array Operand}(ho:o.op= .makeFunc (.func f) first my)(hf:first= #[]){w:World}:
  (execOp ρ o).run P w= .ok (.value (.func (.func f) #[] (my.map ρ))) w:=by
 subst hf
 simp[execOp,ho,Instr.makeFunc]
theorem ya{o:Oper}{ρ:Operand→Value}{s d:TypeId}{x:Operand}(ho:o.op= .convert s d x){w:World}{k k':IntKind}{n:Int}(hs:(P.underlying s).isSome=true)(hd:P.underlying d=some (.int k))(hx:ρ x= .int k' n):
  (execOp ρ o).run P w= .ok (.value (.int k (k.wrap n))) w:=by
 obtain⟨ds,hs⟩:=Option.isSome_iff_exists.1 hs
 simp[execOp,ho,hx,convert,run_underlying hs,run_underlying hd,Conv.intToInt]
theorem ql{o:Oper}{ρ:Operand→Value}{u:UnOp}{t:TypeId}{x:Operand}(ho:o.op= .unOp u t x){w:World}{v:Value}(h:(Op.unary u (ρ x)).run P w= .ok v w):
  (execOp ρ o).run P w= .ok (.value v) w:=by
 simp[execOp,ho,h]
theorem lN{o:Oper}{ρ:Operand→Value}{b:BinOp}{t t':TypeId}{x y:Operand}(ho:o.op= .binOp b t x y t'){w:World}{v:Value}
  (hg:(eqGuard b t x y (ρ x) (ρ y)).run P w= .ok () w) (h:(binOp b t (ρ x) (ρ y)).run P w= .ok v w):
  (execOp ρ o).run P w= .ok (.value v) w:=by
 simp[execOp,ho,hg,h]
theorem k8{b:BinOp}{t:TypeId}{x y:Operand}{k k':IntKind}{m n:Int}(w:World):(eqGuard b t x y (.int k m) (.int k' n)).run P w= .ok () w:=by
 cases b<;>simp[eqGuard]
theorem uF{b:BinOp}{t:TypeId}{x y:Operand}{m n:Bool}(w:World):(eqGuard b t x y (.bool m) (.bool n)).run P w= .ok () w:=by
 cases b<;>simp[eqGuard]
theorem wE{b:BinOp}{t:TypeId}{x y:Operand}{m n:ByteArray}(w:World):(eqGuard b t x y (.string m) (.string n)).run P w= .ok () w:=by
 cases b<;>simp[eqGuard]
theorem jn{o:Oper}{ρ:Operand→Value}{b:Builtin}{args:Array Operand}{ts:Array TypeId}(ho:o.op= .call {callee:= .builtin b,args,argTypes:=ts}){w:World}:
  ∃cs,(execOp ρ o).run P w=(builtin b ts o.type cs (args.map ρ)).run P w:=by
 refine⟨args.map fun| .const _=>true|_=>false,?_⟩
 simp[execOp,ho,resolve,invoke]
 rfl
end VM
end
