/- A part of the proof of BookTwo of layer 18: a machine that reads a function of the program as an equation between values. -/
import Derived.Test.YtecmobijochjkaaGreatVm0
import Derived.WalkLawsBesides
set_option linter.all false
open List renaming getD→γ
section
namespace VM
open Go
def Lq(P:Program)(τ:Ty)(t:TypeId):Prop:=
 ∃i,P.info? t=some i∧i.size=τ.size∧i.zero=some (ck τ τ.cC)∧i.bytes≤2048
def gz(P:Program):Ty→TypeId ⊕ (Array Field×Nat×Nat)→Prop
 | .int k,.inl t=>Lq P (.int k) t∧P.underlying t=some (.int k)
 | .bool,.inl t=>Lq P .bool t∧P.underlying t=some .bool
 | .str,.inl t=>Lq P .str t∧P.underlying t=some .string
 | .slice e,.inl t=>Lq P (.slice e) t∧ ∃e',P.underlying t=some (.slice e')∧gz P e (.inl e')
 | .arr n e,.inl t=>Lq P (.arr n e) t∧ ∃e',P.underlying t=some (.array n e')∧gz P e (.inl e')
 | .unit,.inl t=>Lq P .unit t∧ ∃fs,P.underlying t=some (.struct fs)∧fs.size=0
 | .unit,.inr (fs,n,_)=>fs.size=n
 | .pair a b,.inl t=>Lq P (.pair a b) t∧ ∃fs f,P.underlying t=some (.struct fs)∧fs[0]? =some f∧f.offset=0∧gz P a (.inl f.type)∧gz P b (.inr (fs,1,a.size))
 | .pair a b,.inr (fs,n,off)=> ∃f,fs[n]? =some f∧f.offset=off∧gz P a (.inl f.type)∧gz P b (.inr (fs,n+1,off+a.size))
 |_,.inr _=>False
def kW(P:Program)(τ:Ty)(t:TypeId):Prop:=gz P τ (.inl t)
theorem kW.base{P:Program}{τ:Ty}{t:TypeId}(h:kW P τ t):Lq P τ t:=by
 unfold kW at h;cases τ<;>simp only[gz]at h<;>exact h.1
theorem kW.int{P:Program}{k:IntKind}{t:TypeId}(h:kW P (.int k) t):P.underlying t=some (.int k):=by simp only[kW,gz]at h;exact h.2
theorem kW.bool{P:Program}{t:TypeId}(h:kW P .bool t):P.underlying t=some .bool:=by simp only[kW,gz]at h;exact h.2
theorem kW.str{P:Program}{t:TypeId}(h:kW P .str t):P.underlying t=some .string:=by simp only[kW,gz]at h;exact h.2
theorem kW.slice{P:Program}{e:Ty}{t:TypeId}(h:kW P (.slice e) t): ∃e',P.underlying t=some (.slice e')∧kW P e e':=by simp only[kW,gz]at h;exact h.2
theorem kW.arr{P:Program}{n:Nat}{e:Ty}{t:TypeId}(h:kW P (.arr n e) t): ∃e',P.underlying t=some (.array n e')∧kW P e e':=by simp only[kW,gz]at h;exact h.2
theorem kW.isSome{P:Program}{τ:Ty}{t:TypeId}(h:kW P τ t):(P.underlying t).isSome=true:=by
 unfold kW at h
 cases τ<;>simp only[gz]at h
 ·simp[h.2]
 ·simp[h.2]
 ·simp[h.2]
 ·obtain⟨_,e',h',_⟩:=h;simp[h']
 ·obtain⟨_,e',h',_⟩:=h;simp[h']
 ·obtain⟨_,e',f,h',_⟩:=h;simp[h']
 ·obtain⟨_,e',h',_⟩:=h;simp[h']
inductive DL:(τ:Ty)→τ.den→Nat→(υ:Ty)→υ.den→Nat→Prop where
 |here {a b:Ty} (x:(Ty.pair a b).den):DL (.pair a b) x 0 a x.1 0
 |there {a b:Ty} (x:(Ty.pair a b).den) {n:Nat} {υ:Ty} {y:υ.den} {o:Nat} (h:DL b x.2 n υ y o):DL (.pair a b) x (n+1) υ y (a.size+o)
theorem pV{α:Type}{r:α}: ∀{τ:Ty} {x:τ.den} {n:Nat} {k:(υ:Ty)→υ.den→Option α},vu τ x n k=some r→ ∃υ y o,DL τ x n υ y o∧k υ y=some r
 | .pair a b,x,0,k,h=>⟨a,x.1,0,.here x,h⟩
 | .pair a b,x,n+1,k,h=>by
  obtain⟨υ,y,o,hf,hk⟩:=pV (τ:=b) (x:=x.2) (n:=n) (k:=k) h
  exact⟨υ,y,_,.there x hf,hk⟩
 | .int _,_,_,_,h| .bool,_,_,_,h| .str,_,_,_,h| .slice _,_,_,_,h| .unit,_,_,_,h| .arr _ _,_,_,_,h=>by simp[vu]at h
theorem DL.bound{τ:Ty}{x:τ.den}{n:Nat}{υ:Ty}{y:υ.den}{o:Nat}(h:DL τ x n υ y o):o+υ.size≤τ.size:=by
 induction h with
 |here x=>simp[Ty.size]
 |there x h ih=>simp only[Ty.size];omega
theorem DL.rd{w:World}{M:Nat→Prop}{τ:Ty}{x:τ.den}{n:Nat}{υ:Ty}{y:υ.den}{o:Nat}(h:DL τ x n υ y o):
  ∀{cs:List Value},Rd w M τ cs x→Rd w M υ ((cs.drop o).take υ.size) y:=by
 induction h with
 |here x=>
  intro cs hr
  simp only[Rd]at hr
  obtain⟨c1,c2,rfl,h1,_⟩:=hr
  rw[cQ,xh h1.length];exact h1
 |there x h ih=>
  intro cs hr
  simp only[Rd]at hr
  obtain⟨c1,c2,rfl,h1,h2⟩:=hr
  rw[←iB,mv h1.length]
  exact ih h2
theorem gz.iD{P:Program}{τ:Ty}{x:τ.den}{m:Nat}{υ:Ty}{y:υ.den}{o:Nat}(h:DL τ x m υ y o):
  ∀{fs:Array Field} {n off:Nat},gz P τ (.inr (fs,n,off))→ ∃f,fs[n+m]? =some f∧f.offset=off+o∧kW P υ f.type:=by
 induction h with
 |here x=>
  intro fs n off hl
  simp only[gz]at hl
  obtain⟨f,hf,ho,ha,_⟩:=hl
  exact⟨f,hf,by simpa using ho,ha⟩
 |there x h ih=>
  intro fs n off hl
  simp only[gz]at hl
  obtain⟨f,hf,ho,_,hb⟩:=hl
  obtain⟨f',zQ,ho',IZ⟩:=ih hb
  exact⟨f',by rw[←zQ];congr 1;omega,ω,IZ⟩
theorem kW.iD{P:Program}{τ:Ty}{t:TypeId}{x:τ.den}{m:Nat}{υ:Ty}{y:υ.den}{o:Nat}(hl:kW P τ t)(h:DL τ x m υ y o):
  ∃fs f,P.underlying t=some (.struct fs)∧fs[m]? =some f∧f.offset=o∧kW P υ f.type:=by
 unfold kW at hl
 cases h with
 |here x=>
  simp only[gz]at hl
  obtain⟨_,fs,f,hu,hf,ho,ha,_⟩:=hl
  exact⟨fs,f,hu,hf,ho,ha⟩
 |there x h=>
  simp only[gz]at hl
  obtain⟨_,fs,f,hu,hf,ho,_,hb⟩:=hl
  obtain⟨f',zQ,ho',IZ⟩:=gz.iD h hb
  exact⟨fs,f',hu,by rw[←zQ];congr 1;omega,ω,IZ⟩
inductive Lr:List Step→(τ:Ty)→τ.den→(υ:Ty)→υ.den→Nat→Prop where
 |nil {τ:Ty} (x:τ.den):Lr [] τ x τ x 0
 |iD {p:List Step} {τ υ σ:Ty} {x:τ.den} {n o:Nat} {y:υ.den} {z:σ.den} {q:Nat} (h:DL τ x n υ y o) (r:Lr p υ y σ z q):Lr (.iD n::p) τ x σ z (o+q)
 |idx {p:List Step} {n:Nat} {e σ:Ty} {x:(Ty.arr n e).den} {i:Nat} {z:σ.den} {q:Nat} (r:Lr p e (γ x i e.zero) σ z q):Lr (.idx i::p) (.arr n e) x σ z (i*e.size+q)
theorem kX{α:Type}{r:α}: ∀{p:List Step} {τ:Ty} {x:τ.den} {k:(υ:Ty)→υ.den→Option α},A4 p τ x k=some r→ ∃υ y o,Lr p τ x υ y o∧k υ y=some r
 |[],τ,x,k,h=>⟨τ,x,0,.nil x,h⟩
 | .iD n::p,τ,x,k,h=>by
  obtain⟨υ,y,o,hf,h'⟩:=pV (h:vu τ x n _=some r)
  obtain⟨σ,z,q,hp,hk⟩:=kX h'
  exact⟨σ,z,_,.iD hf hp,hk⟩
 | .idx i::p,τ,x,k,h=>by
  cases τ with
  |arr n e=>
   obtain⟨σ,z,q,hp,hk⟩:=kX (p:=p) (τ:=e) (x:=γ x i e.zero) (k:=k) h
   exact⟨σ,z,_,.idx hp,hk⟩
  |_=>simp[A4,ajY]at h
def tb:Ty→Nat→Ty
 | .pair a b,n=>match n with|0=>a|n+1=>tb b n
 |τ,_=>τ
def gA:Ty→Nat→Nat
 | .pair a b,n=>match n with|0=>0|n+1=>a.size+gA b n
 |_,_=>0
def elT:Ty→Ty
 | .arr _ e=>e
 |τ=>τ
def Jd:List Step→Ty→Ty
 |[],τ=>τ
 | .iD n::p,τ=>Jd p (tb τ n)
 | .idx _::p,τ=>Jd p (elT τ)
def cI:List Step→Ty→Nat
 |[],_=>0
 | .iD n::p,τ=>gA τ n+cI p (tb τ n)
 | .idx i::p,τ=>i*(elT τ).size+cI p (elT τ)
def zo:List Step→Ty→Prop
 |[],_=>True
 | .iD n::p,τ=>zo p (tb τ n)
 | .idx i::p,τ=>(∃n e,τ= .arr n e∧i<n)∧zo p (elT τ)
theorem DL.eq{τ:Ty}{x:τ.den}{n:Nat}{υ:Ty}{y:υ.den}{o:Nat}(h:DL τ x n υ y o):υ=tb τ n∧o=gA τ n:=by
 induction h with
 |here x=>exact⟨rfl,rfl⟩
 |there x h ih=>obtain⟨rfl,rfl⟩:=ih;exact⟨rfl,rfl⟩
theorem Lr.eq{p:List Step}{τ:Ty}{x:τ.den}{υ:Ty}{y:υ.den}{o:Nat}(h:Lr p τ x υ y o):υ=Jd p τ∧o=cI p τ:=by
 induction h with
 |nil x=>exact⟨rfl,rfl⟩
 |iD h r ih=>
  obtain⟨h1,h2⟩:=h.eq
  obtain⟨h3,h4⟩:=ih
  subst h1 h2 h3 h4
  exact⟨rfl,rfl⟩
 |idx r ih=>
  obtain⟨h3,h4⟩:=ih
  subst h3 h4
  exact⟨rfl,rfl⟩
theorem aj1(p q:List Step): ∀τ,Jd (p++q) τ=Jd q (Jd p τ):=by
 induction p with
 |nil=>intro τ;rfl
 |cons s p ih=>intro τ;cases s<;>simp[Jd,ih]
theorem tE(p q:List Step): ∀τ,cI (p++q) τ=cI p τ+cI q (Jd p τ):=by
 induction p with
 |nil=>intro τ;simp[cI,Jd]
 |cons s p ih=>intro τ;cases s<;>simp[cI,Jd,ih,pS]
theorem tF(p q:List Step): ∀τ,zo (p++q) τ↔zo p τ∧zo q (Jd p τ):=by
 induction p with
 |nil=>intro τ;simp[zo,Jd]
 |cons s p ih=>intro τ;cases s<;>simp[zo,Jd,ih,and_assoc]
theorem lK{α:Type}(l:List α)(i:Nat)(d:α)(h:i<l.length):l.getD i d=l[i]:=by simp[γ,bo h]
theorem A6{α:Type}(n:Nat): ∀(l:List (List α)) (i:Nat) (h:i<l.length),(∀j (hj:j<l.length),l[j].length=n)→(l.flatten.drop (i*n)).take n=l[i]
 |a::l,0,_,hn=>by
  have:=hn 0 (by simp)
  simp only[F0]at this
  simp[←this]
 |a::l,i+1,h,hn=>by
  have h0:=hn 0 (by simp)
  simp only[F0]at h0
  rw[AN,eG,kS,Nat.add_comm (i*n) n,←iB,mv h0]
  exact A6 n l i (by simpa using h) (λj hj=>hn (j+1) (by simp;omega))
theorem Rd.idx{w:World}{M:Nat→Prop}{n:Nat}{e:Ty}{cs:List Value}{x:(Ty.arr n e).den}(h:Rd w M (.arr n e) cs x){i:Nat}(hi:i<n):
  Rd w M e ((cs.drop (i*e.size)).take e.size) (γ x i e.zero):=by
 simp only[Rd]at h
 obtain⟨hn,Vq,hc,rfl,hr⟩:=h
 rw[A6 e.size Vq i ω (λj hj=>(hr j ω hj).length),lK x i e.zero ω]
 exact hr i ω ω
theorem Lr.bound{p:List Step}{τ:Ty}{x:τ.den}{υ:Ty}{y:υ.den}{o:Nat}(h:Lr p τ x υ y o):zo p τ→o+υ.size≤τ.size:=by
 induction h with
 |nil x=>intro _;simp
 |iD h r ih=>
  intro hi
  obtain⟨h1,h2⟩:=h.eq
  subst h1
  have:=ih hi
  have:=h.bound
  omega
 | @idx p n e σ x i z q r ih=>
  intro hi
  obtain⟨⟨n',e',he,ka⟩,nZ⟩:=hi
  cases he
  have:=ih nZ
  have h2:(i+1)*e.size≤n*e.size:=kz _ ka
  rw[eG]at h2
  simp only[Ty.size]
  omega
theorem Lr.rd{w:World}{M:Nat→Prop}{p:List Step}{τ:Ty}{x:τ.den}{υ:Ty}{y:υ.den}{o:Nat}(h:Lr p τ x υ y o):
  zo p τ→ ∀{cs:List Value},Rd w M τ cs x→Rd w M υ ((cs.drop o).take υ.size) y:=by
 induction h with
 |nil x=>intro _ cs hr;rw[cQ,iy (by rw[hr.length];exact aH _)];exact hr
 |iD h r ih=>
  intro hi cs hr
  obtain⟨h1,h2⟩:=h.eq
  subst h1
  have:=ih hi (h.rd hr)
  have hb:=Lr.bound r hi
  rw[rT,iB,rU,ik ω]at this
  exact this
 | @idx p n e σ x i z q r ih=>
  intro hi cs hr
  obtain⟨⟨n',e',he,ka⟩,nZ⟩:=hi
  cases he
  have:=ih nZ (hr.idx ka)
  have hb:=Lr.bound r nZ
  rw[rT,iB,rU,ik ω]at this
  exact this
def eM{α:Type}(cs:List α)(o:Nat)(new:List α):List α:=cs.take o++new++cs.drop (o+new.length)
theorem A7{α:Type}{a b:List α}{o:Nat}{new:List α}(h:o+new.length≤a.length):eM (a++b) o new=eM a o new++b:=by
 unfold eM
 rw[yH ω,w9 ω]
 simp only[bE]
theorem yK{α:Type}{a b:List α}{o:Nat}{new:List α}:eM (a++b) (a.length+o) new=a++eM b o new:=by
 unfold eM
 rw[List.take_append,iy ω,AE,pS,List.drop_append,jL ω,AE]
 simp
theorem eI{α:Type}{a:List α}{o:Nat}{new:List α}(h:o+new.length≤a.length):(eM a o new).length=a.length:=by
 unfold eM;simp;omega
theorem Fp{α:Type}{a:List α}{o i n:Nat}{new:List α}(h:i+n≤o∨o+new.length≤i)(hl:o+new.length≤a.length):((eM a o new).drop i).take n=(a.drop i).take n:=by
 apply AO
 intro j
 simp only[mS,mT]
 split
 ·rename_i hj
  unfold eM
  rcases h with h|h
  ·rw[bE,tA (by simp;omega),mS,aj ω]
  ·rw[pz (by simp;omega)]
   simp only[aS,bZ,ik (show o≤a.length by omega),mT]
   congr 1;omega
 ·rfl
theorem aj2{α:Type}{a:List α}{o:Nat}{new:List α}(hl:o+new.length≤a.length):((eM a o new).drop o).take new.length=new:=by
 unfold eM
 rw[bE,mv (by simp;omega),xh rfl]
theorem Gn{α:Type}{l:List α}{o:Nat}{u:α}(h:l[o]? =some u):eM l o [u]=l:=by
 obtain⟨eU,rfl⟩:=vp.1 h
 unfold eM
 simp
theorem yL{α:Type}{l:List α}{o:Nat}{u:α}(h:o<l.length):(eM l o [u])[o]? =some u:=by
 unfold eM
 rw[bE,pz (by simp;omega)]
 simp[ik (Nat.le_of_lt h)]
theorem n0{τ:Ty}: ∀{n:Nat} {a:Ty},A3 τ n=some a→ ∀x:τ.den,∃y o,DL τ x n a y o:=by
 induction τ with
 |pair a b _ X6=>
  intro n c h x
  cases n with
  |zero=>cases h;exact⟨_,_,.here x⟩
  |succ n=>
   obtain⟨y,o,hf⟩:=X6 (n:=n) (a:=c) h x.2
   exact⟨y,_,.there x hf⟩
 |_=>intro n c h;simp[A3]at h
theorem uP: ∀{p:List Step} {τ υ:Ty},gj p τ υ=true→ ∀x:τ.den,∃y o,Lr p τ x υ y o
 |[],τ,υ,h,x=>by
  have h:=bt h
  subst h
  exact⟨x,0,.nil x⟩
 | .iD n::p,τ,υ,h,x=>by
  unfold gj at h
  split at h
  ·rename_i a ha
   obtain⟨y,o,hf⟩:=n0 ha x
   obtain⟨z,q,hp⟩:=uP h y
   exact⟨z,_,.iD hf hp⟩
  ·cases h
 | .idx _::_,_,_,h,_=>by simp[gj]at h
theorem lL: ∀{p:List Step} {τ υ:Ty},gj p τ υ=true→zo p τ∧Jd p τ=υ
 |[],τ,υ,h=>⟨trivial,bt h⟩
 | .iD n::p,τ,υ,h=>by
  have h0:=h
  unfold gj at h
  split at h
  ·rename_i a ha
   obtain⟨y,o,hf⟩:=n0 ha τ.zero
   obtain⟨h1,h2⟩:=lL h
   have:=hf.eq.1
   subst this
   exact⟨h1,h2⟩
  ·cases h
 | .idx _::_,_,_,h=>by simp[gj]at h
theorem zS: ∀{p q:List Step},Nc p q=true→p=q
 |[],[],_=>rfl
 | .iD a::p,.iD b::q,h=>by
  simp only[Nc,bM]at h
  rw[fy h.1,zS h.2]
 |[],_::_,h| .iD _::_,[],h| .idx _::_,_,h| .iD _::_,.idx _::_,h=>by simp[Nc]at h
theorem DL.apart{τ:Ty}{x:τ.den}{n:Nat}{υ:Ty}{y:υ.den}{o:Nat}(h:DL τ x n υ y o): ∀{x':τ.den} {n':Nat} {υ':Ty} {y':υ'.den} {o':Nat},DL τ x' n' υ' y' o'→n≠n'→o+υ.size≤o'∨o'+υ'.size≤o:=by
 induction h with
 |here x=>
  intro x' n' υ' y' o' h' kq
  cases h' with
  |here=>exact absurd rfl kq
  |there _ h'=>left;omega
 |there x h ih=>
  intro x' n' υ' y' o' h' kq
  cases h' with
  |here=>right;omega
  |there _ h'=>rcases ih h' (λe=>kq (by rw[e]))with h1|h1<;>omega
theorem Lr.apart{p:List Step}{τ:Ty}{x:τ.den}{υ:Ty}{y:υ.den}{o:Nat}(h:Lr p τ x υ y o):zo p τ→ ∀{q:List Step} {e:Ty},gj q τ (.slice e)=true→zj p q=false→cI q τ<o∨o+υ.size≤cI q τ:=by
 induction h with
 |nil x=>intro _ q e _ h;simp[zj]at h
 | @iD p τ υ σ x n o y z q hf r ih=>
  intro hi q' e hq hp
  obtain⟨h1,h2⟩:=hf.eq
  subst h1 h2
  cases q' with
  |nil=>
   have:=bt hq
   subst this
   cases hf
  |cons s q'=>
   cases s with
   |idx i=>simp[gj]at hq
   |iD m=>
    unfold gj at hq
    split at hq
    ·rename_i a ha
     obtain⟨y',o',zQ⟩:=n0 ha x
     obtain⟨h3,h4⟩:=zQ.eq
     subst h3 h4
     have hb:=r.bound hi
     obtain⟨h5,h6⟩:=lL hq
     obtain⟨z',o2,RS⟩:=uP hq y'
     have eX:=RS.bound h5
     have ho2:=RS.eq.2
     subst ho2
     simp only[cI]
     by_cases hnm:n=m
     ·subst hnm
      have EM:zj p q'=false:=by
       simp only[zj,Bool.and_eq_false_iff]at hp
       rcases hp with hp|hp
       ·rw[pT]at hp;cases hp
       ·exact hp
      rcases ih hi hq EM with h7|h7<;>omega
     ·rcases hf.apart zQ hnm with h7|h7
      ·right;omega
      ·left
       have:1≤(Ty.slice e).size:=aH _
       omega
    ·cases hq
 | @idx p n e' σ x i z q r ih=>
  intro hi q' e hq hp
  cases q' with
  |nil=>have:=bt hq;cases this
  |cons s q'=>
   cases s with
   |idx i=>simp[gj]at hq
   |iD m=>simp[gj,A3]at hq
def fv:Value→Option Nat
 | .pointer (some a)=>some a.block
 | .slice (some a) _ cap=>if cap=0 then none else some a.block
 |_=>none
def br.mut:br→Prop
 | .obj _ _| .own _ _| .gk _ _ _ _=>True
 |_=>False
def ER(w:World)(M:Nat→Prop)(v:Value):br→Prop
 | .obj τ x=> ∃b cs t,v= .pointer (some ⟨b,0,none⟩)∧w.heap[b]? =some (.cells cs t (0,0))∧M b∧Rd w M τ cs.toList x
 | .gk τ x p _=> ∃b cs t kb u,v= .pointer (some ⟨b,0,none⟩)∧w.heap[b]? =some (.cells cs t (0,0))∧M b∧Rd w M τ kb x∧cs.toList=eM kb (cI p τ) [u]∧u.oneCell'=true∧ ∃e,gj p τ (.slice e)=true
 | .own e l=>(l=[]∧ ∃a,v= .slice a 0 0)∨
  ∃b cs t cap,v= .slice (some ⟨b,0,none⟩) l.length cap∧w.heap[b]? =some (.cells cs t (0,0))∧M b∧0<cap∧l.length≤cap∧cap≤maxLen∧cs.size=cap*e.size∧
   ∀i (h:i<l.length),Rd w M e ((cs.toList.drop (i*e.size)).take e.size) l[i]
 | .pD e l=>Rd w M (.slice e) [v] l∧((l=[]∧ ∃a n c,v= .slice a n c)∨ ∃b n c,v= .slice (some ⟨b,0,none⟩) n c)
 | .gone=>True
def AR(v:Value)(p:List Step)(u:Value):br→Prop
 | .obj τ _| .gk τ _ _ _=>zo p τ∧ ∃b,v= .pointer (some ⟨b,0,none⟩)∧u= .pointer (some ⟨b,cI p τ,none⟩)
 | .own e l| .pD e l=> ∃i q,p= .idx i::q∧i<l.length∧zo q e∧ ∃b n c,v= .slice (some ⟨b,0,none⟩) n c∧u= .pointer (some ⟨b,i*e.size+cI q e,none⟩)
 | .gone=> ∃a,u= .pointer (some a)
def vy(τ:Ty)(n:Nat):Bool:=match A3 τ n with
 |some (.slice _)=>true
 |_=>false
mutual
def VR(w:World)(M:Nat→Prop)(H:Nat→Option br)(ν:Nat→Value):bA→Value→Prop
 | .any,_=>True
 | .X4,v=>v=undef
 | .val τ x,v=>V w M τ v x
 | .Ln τ x n,v=>V w M τ v x∧ ∃cs a,v= .agg cs∧cs.toList[gA τ n]? =some (.slice a 0 0)
 | .sub id e lo,v=>H id≠none∧ ∃a n cap,ν id= .slice a n cap∧v= .slice (if cap=lo then a else a.map (·.add (lo*e.size))) (n-lo) (cap-lo)
 | .Ja τ x n j,v=> ∃cs kb,v= .agg cs∧Rd w M τ kb x∧cs.toList=eM kb (gA τ n) [ν j]∧H j≠none∧vy τ n=true
 | .emp,v=> ∃a,v= .slice a 0 0
 | .ref id,v=>H id≠none∧v=ν id
 | .jE id p,v=> ∃e,H id=some e∧AR (ν id) p v e
 | .se τ x,v=> ∃b off,v= .pointer (some ⟨b,off,none⟩)∧b<w.heap.size∧ ¬M b∧ ∃cs,At w b off cs∧Rd w M τ cs x
 | .tup vs,v=> ∃us:List Value,v= .tuple us.toArray∧jO w M H ν vs us
 | .NM f caps,v=> ∃cs:List Value,v= .func (.func f) #[] cs.toArray∧jO w M H ν caps cs
def jO(w:World)(M:Nat→Prop)(H:Nat→Option br)(ν:Nat→Value):List bA→List Value→Prop
 |[],[]=>True
 |a::as,v::vs=>VR w M H ν a v∧jO w M H ν as vs
 |_,_=>False
end
def br.lM:br→br→Prop
 | .obj τ _,.obj υ _| .obj τ _,.gk υ _ _ _| .gk τ _ _ _,.obj υ _| .gk τ _ _ _,.gk υ _ _ _=>τ=υ
 | .own e l,.own f k| .own e l,.pD f k| .pD e l,.pD f k=>e=f∧l.length=k.length
 |_,.gone=>True
 |_,_=>False
structure uh(H:Nat→Option br)(ν:Nat→Value)(H':Nat→Option br)(ν':Nat→Value):Prop where
 jY: ∀i e,H i=some e→ ∃e',H' i=some e'∧e.lM e'
 head: ∀i,H i≠none→ν' i=ν i
theorem AR.ptr{v:Value}{p:List Step}{u:Value}{e:br}(h:AR v p u e): ∃a,u= .pointer (some a):=by
 cases e<;>simp only[AR]at h
 ·obtain⟨_,b,_,h⟩:=h;exact⟨_,h⟩
 ·obtain⟨_,b,_,h⟩:=h;exact⟨_,h⟩
 ·obtain⟨i,q,_,_,_,b,n,c,_,h⟩:=h;exact⟨_,h⟩
 ·obtain⟨i,q,_,_,_,b,n,c,_,h⟩:=h;exact⟨_,h⟩
 ·exact h
theorem AR.lM{v:Value}{p:List Step}{u:Value}{e e':br}(h:AR v p u e)(l:e.lM e'):AR v p u e':=by
 have hp:=h.ptr
 cases e<;>cases e'<;>simp only[br.lM]at l<;>simp only[AR]at h ⊢ <;>try exact hp
 ·subst l;exact h
 ·subst l;exact h
 ·subst l;exact h
 ·subst l;exact h
 ·obtain⟨rfl,hl⟩:=l;obtain⟨i,q,hp,hi,r⟩:=h;exact⟨i,q,hp,ω,r⟩
 ·obtain⟨rfl,hl⟩:=l;obtain⟨i,q,hp,hi,r⟩:=h;exact⟨i,q,hp,ω,r⟩
 ·obtain⟨rfl,hl⟩:=l;obtain⟨i,q,hp,hi,r⟩:=h;exact⟨i,q,hp,ω,r⟩
theorem br.lM.refl(e:br):e.lM e:=by cases e<;>simp[br.lM]
theorem uh.refl(H:Nat→Option br)(ν:Nat→Value):uh H ν H ν:=⟨λ_ e h=>⟨e,h,.refl e⟩,λ_ _=>rfl⟩
mutual
theorem VR.cg{w w':World}{M M':Nat→Prop}{H H':Nat→Option br}{ν ν':Nat→Value}(k:fI w M w' M')(g:uh H ν H' ν'):
  ∀{a:bA} {v:Value},VR w M H ν a v→VR w' M' H' ν' a v
 | .any,_,_=>by simp[VR]
 | .X4,_,h=>by simpa [VR]using h
 | .val τ x,v,h=>by simp only[VR]at h ⊢;exact h.cg k
 | .Ln τ x n,v,h=>by simp only[VR]at h ⊢;exact⟨h.1.cg k,h.2⟩
 | .sub id e lo,v,h=>by
  simp only[VR]at h ⊢
  obtain⟨h1,h2⟩:=h
  obtain⟨e,he⟩:=xa.1 h1
  obtain⟨e',uw,_⟩:=g.jY id e he
  exact⟨by simp[uw],by rw[g.head id h1];exact h2⟩
 | .Ja τ x n j,v,h=>by
  simp only[VR]at h ⊢
  obtain⟨cs,kb,h1,h2,h3,h4,h5⟩:=h
  obtain⟨e,he⟩:=xa.1 h4
  obtain⟨e',uw,_⟩:=g.jY j e he
  exact⟨cs,kb,h1,h2.cg k,by rw[g.head j h4];exact h3,by simp[uw],h5⟩
 | .emp,_,h=>by simpa [VR]using h
 | .ref id,_,h=>by
  simp only[VR]at h ⊢
  obtain⟨h1,h2⟩:=h
  obtain⟨e,he⟩:=xa.1 h1
  obtain⟨e',uw,_⟩:=g.jY id e he
  exact⟨by simp[uw],by rw[g.head id h1];exact h2⟩
 | .jE id p,_,h=>by
  simp only[VR]at h ⊢
  obtain⟨e,he,ha⟩:=h
  obtain⟨e',uw,hl⟩:=g.jY id e he
  exact⟨e',uw,by rw[g.head id (by simp[he])];exact ha.lM hl⟩
 | .se τ x,_,h=>by
  simp only[VR]at h ⊢
  obtain⟨b,off,rfl,hb,hm,cs,ha,hr⟩:=h
  exact⟨b,off,rfl,nQ hb k.size,λh'=>hm (k.less b hb h'),cs,ha.cg (k.block b hb hm),hr.cg k⟩
 | .tup vs,_,h=>by
  simp only[VR]at h ⊢
  obtain⟨us,rfl,h⟩:=h
  exact⟨us,rfl,jO.cg k g h⟩
 | .NM f caps,_,h=>by
  simp only[VR]at h ⊢
  obtain⟨us,rfl,h⟩:=h
  exact⟨us,rfl,jO.cg k g h⟩
theorem jO.cg{w w':World}{M M':Nat→Prop}{H H':Nat→Option br}{ν ν':Nat→Value}(k:fI w M w' M')(g:uh H ν H' ν'):
  ∀{as:List bA} {vs:List Value},jO w M H ν as vs→jO w' M' H' ν' as vs
 |[],[],_=>by simp[jO]
 |a::as,v::vs,h=>by simp only[jO]at h ⊢;exact⟨VR.cg k g h.1,jO.cg k g h.2⟩
 |[],_::_,h=>by simp[jO]at h
 |_::_,[],h=>by simp[jO]at h
end
end VM
end
section
namespace VM
open Go
structure Ctx where
 B:Nat
 w0:World
 M0:Nat→Prop
 may:Nat→Prop
 arg:Nat→Value
structure Mem(c:Ctx)(H:Nat→Option br)(w:World)(M:Nat→Prop)(ν:Nat→Value):Prop where
 jY: ∀i e,H i=some e→ER w M (ν i) e
 A8: ∀i j e e' b,i≠j→H i=some e→e.mut→H j=some e'→e'.mut→fv (ν i)=some b→fv (ν j)≠some b
 new: ∀i e b,H i=some e→e.mut→fv (ν i)=some b→c.B≤b∨c.may b
 oN: ∀i e l b,H i=some (.own e l)→fv (ν i)=some b→ ¬c.M0 b
 gk: ∀i τ x p j,H i=some (.gk τ x p j)→H j≠none∧ ∃b,ν i= .pointer (some ⟨b,0,none⟩)∧w.cell? ⟨b,cI p τ,none⟩=some (ν j)
 sub: ∀b,c.M0 b→M b
 Gp: ∀b,M b→b<w.heap.size
 frame: ∀b,b<c.B→ ¬c.may b→w.heap[b]? =c.w0.heap[b]?
 size:c.B≤w.heap.size
 wS:(∀b,c.M0 b→b<c.B)∧ ∀b,c.may b→ ¬c.M0 b
 os:w.os=c.w0.os
 tape:w.tape=c.w0.tape
 output:w.output=c.w0.output
structure Tr(c:Ctx)(H:Nat→Option br)(w:World)(M:Nat→Prop)(ν:Nat→Value)(H':Nat→Option br)(w':World)(M':Nat→Prop)(ν':Nat→Value):Prop where
 mem:Mem c H' w' M' ν'
 cg:fI w M w' M'
 goes:uh H ν H' ν'
theorem br.lM.trans{a b d:br}(h:a.lM b)(k:b.lM d):a.lM d:=by
 cases a<;>cases b<;>cases d<;>simp only[br.lM]at h k ⊢ <;>first
  |exact h.trans k
  |exact⟨h.1.trans k.1,h.2.trans k.2⟩
theorem uh.trans{H H' H'':Nat→Option br}{ν ν' ν'':Nat→Value}(h:uh H ν H' ν')(k:uh H' ν' H'' ν''):uh H ν H'' ν'':=by
 refine⟨λi e he=> ?_,λi hi=> ?_⟩
 ·obtain⟨e',uw,l⟩:=h.jY i e he
  obtain⟨e'',avg,l'⟩:=k.jY i e' uw
  exact⟨e'',avg,l.trans l'⟩
 ·obtain⟨e,he⟩:=xa.1 hi
  obtain⟨e',uw,_⟩:=h.jY i e he
  rw[k.head i (by simp[uw]),h.head i hi]
theorem Tr.trans{c:Ctx}{H H' H'':Nat→Option br}{w w' w'':World}{M M' Nh:Nat→Prop}{ν ν' ν'':Nat→Value}
  (h:Tr c H w M ν H' w' M' ν') (k:Tr c H' w' M' ν' H'' w'' Nh ν''):Tr c H w M ν H'' w'' Nh ν'':=
 ⟨k.mem,h.cg.trans k.cg,h.goes.trans k.goes⟩
theorem Tr.refl{c:Ctx}{H:Nat→Option br}{w:World}{M:Nat→Prop}{ν:Nat→Value}(h:Mem c H w M ν):Tr c H w M ν H w M ν:=
 ⟨h,.refl w M,.refl H ν⟩
theorem ay(H:Nat→Option br)(d:Nat)(v:Option br):cn H d v d=v:=by simp[cn]
theorem az(H:Nat→Option br){d i:Nat}(v:Option br)(h:i≠d):cn H d v i=H i:=by
 have:Nat.beq i d=false:=by rw[←mU,xn];exact h
 simp[cn,this]
def c0(H:Nat→Option br):jF→(Nat→Option br)
 |[]=>H
 |u::r=>c0 (cn H u.1 u.2) r
theorem R7(ups:jF): ∀σ:St,(σ.xp ups).H=c0 σ.H ups:=by
 induction ups with
 |nil=>intro σ;rfl
 |cons u r ih=>intro σ;exact ih _
theorem R8(ups:jF): ∀σ:St,(σ.xp ups).T=σ.T:=by
 induction ups with
 |nil=>intro σ;rfl
 |cons u r ih=>intro σ;exact ih _
theorem fJ(a b:jF): ∀H,c0 H (a++b)=c0 (c0 H a) b:=by
 induction a with
 |nil=>intro H;rfl
 |cons u r ih=>intro H;exact ih _
theorem yM{H:Nat→Option br}{id j:Nat}{v:br}(h:H j≠none):cn H id (some v) j≠none:=by
 by_cases hj:j=id
 ·subst hj;rw[ay];simp
 ·rw[az _ _ hj];exact h
theorem Ls{H:Nat→Option br}{w:World}{ν:Nat→Value}(h: ∀i τ x p j,H i=some (.gk τ x p j)→H j≠none∧ ∃b,ν i= .pointer (some ⟨b,0,none⟩)∧w.cell? ⟨b,cI p τ,none⟩=some (ν j)){id:Nat}{v:br}(hv: ∀τ x p j,v≠ .gk τ x p j):
  ∀i τ x p j,cn H id (some v) i=some (.gk τ x p j)→cn H id (some v) j≠none∧ ∃b,ν i= .pointer (some ⟨b,0,none⟩)∧w.cell? ⟨b,cI p τ,none⟩=some (ν j):=by
 intro i τ x p j hi
 by_cases ca:i=id
 ·subst ca;rw[ay]at hi;cases hi;exact absurd rfl (hv _ _ _ _)
 ·rw[az _ _ ca]at hi
  obtain⟨h1,h2⟩:=h i τ x p j hi
  exact⟨yM h1,h2⟩
theorem Tr.gone{c:Ctx}{H:Nat→Option br}{w:World}{M:Nat→Prop}{ν:Nat→Value}(h:Mem c H w M ν)(id:Nat):Tr c H w M ν (cn H id (some .gone)) w M ν:=by
 refine⟨⟨λi e he=> ?_,λi j e e' b qy hi hm hj jt=> ?_,λi e b hi hm=> ?_,λi e l b hi=> ?_,Ls h.gk (λ_ _ _ _=>by simp),h.sub,h.Gp,h.frame,h.size,h.wS,h.os,h.tape,h.output⟩,.refl w M,⟨λi e he=> ?_,λ_ _=>rfl⟩⟩
 ·by_cases bg:i=id
  ·subst bg;rw[ay]at he;cases he;simp[ER]
  ·rw[az _ _ bg]at he;exact h.jY i e he
 ·by_cases bg:i=id
  ·subst bg;rw[ay]at hi;cases hi;simp[br.mut]at hm
  ·by_cases hjd:j=id
   ·subst hjd;rw[ay]at hj;cases hj;simp[br.mut]at jt
   ·rw[az _ _ bg]at hi;rw[az _ _ hjd]at hj;exact h.A8 i j e e' b qy hi hm hj jt
 ·by_cases bg:i=id
  ·subst bg;rw[ay]at hi;cases hi;simp[br.mut]at hm
  ·rw[az _ _ bg]at hi;exact h.new i e b hi hm
 ·by_cases bg:i=id
  ·subst bg;rw[ay]at hi;cases hi
  ·rw[az _ _ bg]at hi;exact h.oN i e l b hi
 ·by_cases bg:i=id
  ·subst bg;exact⟨.gone,ay _ _ _,by cases e<;>simp[br.lM]⟩
  ·exact⟨e,by rw[az _ _ bg];exact he,.refl e⟩
theorem cell_of{w:World}{b:Nat}{cs:Array Value}{t:TypeId}{fz:Nat×Nat}(h:w.heap[b]? =some (.cells cs t fz))(o:Nat):w.cell? ⟨b,o,none⟩=cs[o]? :=by
 simp[World.cell?,h]
theorem At.of_block{w:World}{b:Nat}{cs:Array Value}{t:TypeId}{fz:Nat×Nat}(h:w.heap[b]? =some (.cells cs t fz))(o n:Nat):
  At w b o ((cs.toList.drop o).take n):=by
 intro j v hj
 rw[cell_of h]
 rw[mS]at hj
 split at hj
 ·rw[mT]at hj;simpa using hj
 ·cases hj
theorem lt_of_block{w:World}{b:Nat}{o:Obj}(h:w.heap[b]? =some o):b<w.heap.size:=(lG.1 h).1
theorem ER.cg{w w':World}{M M':Nat→Prop}{v:Value}(k:fI w M w' M'): ∀{e:br},
  (e.mut→ ∀b,fv v=some b→w'.heap[b]? =w.heap[b]? ∧M' b)→ER w M v e→ER w' M' v e
 | .obj τ x,hm,h=>by
  simp only[ER]at h ⊢
  obtain⟨b,cs,t,rfl,hb,hM,hr⟩:=h
  obtain⟨h1,h2⟩:=hm trivial b rfl
  exact⟨b,cs,t,rfl,h1.trans hb,h2,hr.cg k⟩
 | .gk τ x p j,hm,h=>by
  simp only[ER]at h ⊢
  obtain⟨b,cs,t,kb,u,rfl,hb,hM,hr,h3⟩:=h
  obtain⟨h1,h2⟩:=hm trivial b rfl
  exact⟨b,cs,t,kb,u,rfl,h1.trans hb,h2,hr.cg k,h3⟩
 | .own e l,hm,h=>by
  simp only[ER]at h ⊢
  rcases h with h|⟨b,cs,t,cap,rfl,hb,hM,hc,hl,Fs,hs,hr⟩
  ·exact .inl h
  ·obtain⟨h1,h2⟩:=hm trivial b (by simp[fv];omega)
   exact .inr ⟨b,cs,t,cap,rfl,h1.trans hb,h2,hc,hl,Fs,hs,λi hi=>(hr i hi).cg k⟩
 | .pD e l,_,h=>by
  simp only[ER]at h ⊢
  exact⟨h.1.cg k,h.2⟩
 | .gone,_,_=>by simp[ER]
theorem ER.xB{w:World}{M:Nat→Prop}{v:Value}{e:br}(h:ER w M v e)(hm:e.mut){b:Nat}(hb:fv v=some b):M b:=by
 cases e with
 |obj τ x=>simp only[ER]at h;obtain⟨b',cs,t,hv,eX,hM,_⟩:=h;rw[hv]at hb;simp only[fv,iA]at hb;subst hb;exact hM
 |gk τ x p j=>simp only[ER]at h;obtain⟨b',cs,t,_,_,hv,eX,hM,_⟩:=h;rw[hv]at hb;simp only[fv,iA]at hb;subst hb;exact hM
 |own e1 l1=>
  simp only[ER]at h
  rcases h with⟨_,a,hv⟩|⟨b',cs,t,cap,hv,eX,hM,hc,_⟩
  ·rw[hv]at hb;cases a<;>simp[fv]at hb
  ·rw[hv]at hb;simp only[fv]at hb;split at hb
   ·cases hb
   ·simp only[iA]at hb;subst hb;exact hM
 |pD _ _=>simp[br.mut]at hm
 |gone=>simp[br.mut]at hm
theorem Tr.freeze{c:Ctx}{H:Nat→Option br}{w:World}{M:Nat→Prop}{ν:Nat→Value}(h:Mem c H w M ν){id:Nat}{e:Ty}{l:List e.den}(bg:H id=some (.own e l)):
  ∃M',Tr c H w M ν (cn H id (some (.pD e l))) w M' ν∧V w M' (.slice e) (ν id) l∧ ∀b,M' b↔(M b∧fv (ν id)≠some b):=by
 have hk:fI w M w (λb=>M b∧fv (ν id)≠some b):=⟨aH _,λ_ _ _=>rfl,λ_ _ h=>h.1⟩
 have he:=h.jY id _ bg
 have kB:Rd w (λb=>M b∧fv (ν id)≠some b) (.slice e) [ν id] l:=by
  simp only[ER]at he
  simp only[Rd]
  rcases he with⟨rfl,a,hv⟩|⟨b,cs,t,cap,hv,hb,hM,hc,hl,Fs,hs,hr⟩
  ·exact⟨a,0,by rw[hv];rfl,aH _,λi hi=>absurd hi (by simp)⟩
  ·refine⟨_,cap,by rw[hv],hl,λi hi=>⟨b,0,rfl,lt_of_block hb,λhm=>hm.2 (by rw[hv];simp[fv];omega),_,?_,(hr i hi).cg hk⟩⟩
   rw[gm]
   exact At.of_block hb _ _
 refine⟨λb=>M b∧fv (ν id)≠some b,⟨⟨λi e' hi=> ?_,λi j e1 e2 b qy hi hm hj jt=> ?_,λi e1 b hi hm=> ?_,λi e1 l1 b hi=> ?_,Ls h.gk (λ_ _ _ _=>by simp),λb hb=>⟨h.sub b hb,λhm=>h.oN id e l b bg hm hb⟩,λb hb=>h.Gp b hb.1,h.frame,h.size,h.wS,h.os,h.tape,h.output⟩,hk,⟨λi e' hi=> ?_,λ_ _=>rfl⟩⟩,?_,λ_=>Iff.rfl⟩
 ·by_cases ca:i=id
  ·subst ca;rw[ay]at hi;cases hi
   simp only[ER]
   refine⟨kB,?_⟩
   simp only[ER]at he
   rcases he with⟨rfl,a,hv⟩|⟨b,cs,t,cap,hv,_⟩
   ·exact .inl ⟨rfl,a,0,0,hv⟩
   ·exact .inr ⟨b,_,cap,hv⟩
  ·rw[az _ _ ca]at hi
   refine(h.jY i e' hi).cg hk (λhm b hb=>⟨rfl,?_,?_⟩)
   ·exact(h.jY i e' hi).xB hm hb
   ·exact h.A8 i id e' (.own e l) b ca hi hm bg trivial hb
 ·by_cases ca:i=id
  ·subst ca;rw[ay]at hi;cases hi;simp[br.mut]at hm
  ·by_cases I0:j=id
   ·subst I0;rw[ay]at hj;cases hj;simp[br.mut]at jt
   ·rw[az _ _ ca]at hi;rw[az _ _ I0]at hj;exact h.A8 i j e1 e2 b qy hi hm hj jt
 ·by_cases ca:i=id
  ·subst ca;rw[ay]at hi;cases hi;simp[br.mut]at hm
  ·rw[az _ _ ca]at hi;exact h.new i e1 b hi hm
 ·by_cases ca:i=id
  ·subst ca;rw[ay]at hi;cases hi
  ·rw[az _ _ ca]at hi;exact h.oN i e1 l1 b hi
 ·by_cases ca:i=id
  ·subst ca;rw[bg]at hi;cases hi;exact⟨_,ay _ _ _,rfl,rfl⟩
  ·exact⟨e',by rw[az _ _ ca];exact hi,.refl e'⟩
 ·unfold V;rw[ah (by simp[Ty.isAgg])];exact kB
theorem Tr.fix{c:Ctx}{H:Nat→Option br}{w:World}{M:Nat→Prop}{ν:Nat→Value}(h:Mem c H w M ν){id:Nat}{τ:Ty}{x:τ.den}(bg:H id=some (.obj τ x)):
  ∃M' b,Tr c H w M ν (cn H id (some .gone)) w M' ν∧ν id= .pointer (some ⟨b,0,none⟩)∧b<w.heap.size∧ ¬M' b∧ ∃cs,At w b 0 cs∧Rd w M' τ cs x:=by
 have he:=h.jY id _ bg
 simp only[ER]at he
 obtain⟨b0,cs,t,hv,hb,hM,hr⟩:=he
 have xC:fv (ν id)=some b0:=by rw[hv];rfl
 have hk:fI w M w (λb=>M b∧b≠b0):=⟨aH _,λ_ _ _=>rfl,λ_ _ h=>h.1⟩
 have Gq: ¬c.M0 b0:=λhm=>(h.new id _ b0 bg trivial xC).elim (λhB=>by have:=h.wS.1 b0 hm;omega) (λhB=>h.wS.2 b0 hB hm)
 refine⟨λb=>M b∧b≠b0,b0,⟨⟨λi e' hi=> ?_,λi j e1 e2 b qy hi hm hj jt=> ?_,λi e1 b hi hm=> ?_,λi e1 l1 b hi=> ?_,Ls h.gk (λ_ _ _ _=>by simp),λb eX=>⟨h.sub b eX,λe=>Gq (e▸eX)⟩,λb eX=>h.Gp b eX.1,h.frame,h.size,h.wS,h.os,h.tape,h.output⟩,hk,⟨λi e' hi=> ?_,λ_ _=>rfl⟩⟩,hv,lt_of_block hb,λhm=>hm.2 rfl,cs.toList,?_,hr.cg hk⟩
 ·by_cases ca:i=id
  ·subst ca;rw[ay]at hi;cases hi;simp[ER]
  ·rw[az _ _ ca]at hi
   refine(h.jY i e' hi).cg hk (λhm b eX=>⟨rfl,?_,?_⟩)
   ·exact(h.jY i e' hi).xB hm eX
   ·intro e
    exact h.A8 i id e' (.obj τ x) b ca hi hm bg trivial eX (by rw[xC,e])
 ·by_cases ca:i=id
  ·subst ca;rw[ay]at hi;cases hi;simp[br.mut]at hm
  ·by_cases I0:j=id
   ·subst I0;rw[ay]at hj;cases hj;simp[br.mut]at jt
   ·rw[az _ _ ca]at hi;rw[az _ _ I0]at hj;exact h.A8 i j e1 e2 b qy hi hm hj jt
 ·by_cases ca:i=id
  ·subst ca;rw[ay]at hi;cases hi;simp[br.mut]at hm
  ·rw[az _ _ ca]at hi;exact h.new i e1 b hi hm
 ·by_cases ca:i=id
  ·subst ca;rw[ay]at hi;cases hi
  ·rw[az _ _ ca]at hi;exact h.oN i e1 l1 b hi
 ·by_cases ca:i=id
  ·subst ca;rw[bg]at hi;cases hi;exact⟨_,ay _ _ _,trivial⟩
  ·exact⟨e',by rw[az _ _ ca];exact hi,.refl e'⟩
 ·have:=At.of_block hb 0 cs.toList.length
  rwa [cQ,ij]at this
end VM
end
section
namespace VM
open Go
theorem Gr(w:World)(o:Obj):(w.alloc o).heap[w.heap.size]? =some o:=by
 show(w.heap.push o)[w.heap.size]? =some o
 simp
theorem rD(w:World)(o:Obj){i:Nat}(h:i<w.heap.size):(w.alloc o).heap[i]? =w.heap[i]? :=by
 show(w.heap.push o)[i]? =w.heap[i]?
 rw[Array.getElem?_push,ah (Nat.ne_of_lt h)]
theorem size_alloc(w:World)(o:Obj):(w.alloc o).heap.size=w.heap.size+1:=by
 show(w.heap.push o).size=_
 simp
def updν(ν:Nat→Value)(d:Nat)(v:Value):Nat→Value:=λi=>if i=d then v else ν i
theorem sl{c:Ctx}{H:Nat→Option br}{w w':World}{M:Nat→Prop}{ν ν':Nat→Value}(h:Mem c H w M ν){H':Nat→Option br}
  (hν: ∀i,H i≠none→ν' i=ν i) (hn: ∀i,H i≠none→H' i≠none)
  (hi: ∀i τ x p j,H' i=some (.gk τ x p j)→(H i=some (.gk τ x p j)∧ ∀b,ν i= .pointer (some ⟨b,0,none⟩)→w'.heap[b]? =w.heap[b]?)∨(H' j≠none∧ ∃b,ν' i= .pointer (some ⟨b,0,none⟩)∧w'.cell? ⟨b,cI p τ,none⟩=some (ν' j))):
  ∀i τ x p j,H' i=some (.gk τ x p j)→H' j≠none∧ ∃b,ν' i= .pointer (some ⟨b,0,none⟩)∧w'.cell? ⟨b,cI p τ,none⟩=some (ν' j):=by
 intro i τ x p j he
 rcases hi i τ x p j he with⟨h1,hb⟩|h1
 ·obtain⟨h2,b,h3,h4⟩:=h.gk i τ x p j h1
  refine⟨hn j h2,b,by rw[hν i (by rw[h1];simp)];exact h3,?_⟩
  rw[hν j h2,World.cell?_of_block (w:=w) (hb b h3)]
  exact h4
 ·exact h1
theorem yN{H:Nat→Option br}{id:Nat}{v:br}: ∀i,H i≠none→cn H id (some v) i≠none:=λ_ h=>yM h
theorem A9{H:Nat→Option br}{id:Nat}{v:br}(hv: ∀τ x p j,v≠ .gk τ x p j){i:Nat}{τ:Ty}{x:τ.den}{p:List Step}{j:Nat}(h:cn H id (some v) i=some (.gk τ x p j)):H i=some (.gk τ x p j):=by
 by_cases ca:i=id
 ·subst ca;rw[ay]at h;cases h;exact absurd rfl (hv _ _ _ _)
 ·rw[az _ _ ca]at h;exact h
theorem Tr.alloc{c:Ctx}{H:Nat→Option br}{w:World}{M:Nat→Prop}{ν:Nat→Value}(h:Mem c H w M ν){id:Nat}(bg:H id=none)(o:Obj)(v:Value)(e:br)(hm:e.mut)(JW: ∀τ x p j,e≠ .gk τ x p j)
  (hb:fv v=none∨fv v=some w.heap.size) (Vr:ER (w.alloc o) (λb=>M b∨b=w.heap.size) v e):
  Tr c H w M ν (cn H id (some e)) (w.alloc o) (λb=>M b∨b=w.heap.size) (updν ν id v):=by
 have hk:fI w M (w.alloc o) (λb=>M b∨b=w.heap.size):=
  ⟨by rw[size_alloc];omega,λb hb _=>rD w o hb,λb hb h'=>h'.resolve_right ω⟩
 have hν: ∀i,i≠id→updν ν id v i=ν i:=λi hi=>by simp[updν,hi]
 have hνs:updν ν id v id=v:=by simp[updν]
 have eU: ∀i e' b,H i=some e'→e'.mut→fv (ν i)=some b→b<w.heap.size:=λi e' b hi jt eX=>h.Gp b ((h.jY i e' hi).xB jt eX)
 refine⟨⟨λi e' hi=> ?_,λi j e1 e2 b qy hi ui hj yO=> ?_,λi e1 b hi ui=> ?_,λi e1 l1 b hi=> ?_,sl h (λi hi=>hν i (λe=>hi (e▸bg))) yN (λi τ x p j hi=> .inl ⟨A9 JW hi,λb hb=>rD w o (eU i _ b (A9 JW hi) trivial (by rw[hb];rfl))⟩),λb hb=> .inl (h.sub b hb),λb eX=> ?_,λb nr vk=> ?_,?_,h.wS,h.os,h.tape,h.output⟩,hk,⟨λi e' hi=> ?_,λi hi=> ?_⟩⟩
 ·by_cases ca:i=id
  ·subst ca;rw[ay]at hi;cases hi;rw[hνs];exact Vr
  ·rw[az _ _ ca]at hi;rw[hν i ca]
   exact(h.jY i e' hi).cg hk λjt b eX=>⟨rD w o (eU i e' b hi jt eX),.inl ((h.jY i e' hi).xB jt eX)⟩
 ·by_cases ca:i=id
  ·subst ca;rw[ay]at hi;cases hi;rw[hνs]
   intro nr
   have I0:j≠i:=fc qy
   rw[az _ _ I0]at hj;rw[hν j I0]
   intro vk
   have:=eU j e2 b hj yO vk
   rcases hb with hb|hb<;>rw[hb]at nr<;>simp at nr
   omega
  ·rw[az _ _ ca]at hi;rw[hν i ca]
   by_cases I0:j=id
   ·subst I0;rw[hνs]
    intro nr vk
    have:=eU i e1 b hi ui nr
    rcases hb with hb|hb<;>rw[hb]at vk<;>simp at vk
    omega
   ·rw[az _ _ I0]at hj;rw[hν j I0];exact h.A8 i j e1 e2 b qy hi ui hj yO
 ·by_cases ca:i=id
  ·subst ca;rw[hνs]
   intro nr
   rcases hb with hb|hb<;>rw[hb]at nr<;>simp at nr
   subst nr;exact .inl h.size
  ·rw[az _ _ ca]at hi;rw[hν i ca];exact h.new i e1 b hi ui
 ·by_cases ca:i=id
  ·subst ca;rw[hνs]
   intro nr h0
   rcases hb with hb|hb<;>rw[hb]at nr<;>simp at nr
   have:=h.wS.1 b h0
   have:=h.size
   omega
  ·rw[az _ _ ca]at hi;rw[hν i ca];exact h.oN i e1 l1 b hi
 ·rw[size_alloc]
  rcases eX with eX|eX
  ·have:=h.Gp b eX;omega
  ·omega
 ·rw[rD w o (nQ nr h.size)];exact h.frame b nr vk
 ·rw[size_alloc];have:=h.size;omega
 ·by_cases ca:i=id
  ·subst ca;rw[bg]at hi;cases hi
  ·exact⟨e',by rw[az _ _ ca];exact hi,.refl e'⟩
 ·have ca:i≠id:=λe=>hi (e▸bg)
  exact hν i ca
theorem Tr.var{c:Ctx}{H:Nat→Option br}{w:World}{M:Nat→Prop}{ν:Nat→Value}(h:Mem c H w M ν){id:Nat}(bg:H id=none)(t:TypeId){τ:Ty}{cs:Array Value}{x:τ.den}(hr:Rd w M τ cs.toList x):
  Tr c H w M ν (cn H id (some (.obj τ x))) (w.alloc (.cells cs t)) (λb=>M b∨b=w.heap.size) (updν ν id (.pointer (some ⟨w.heap.size,0,none⟩))):=by
 refine Tr.alloc h bg _ _ _ trivial (λ_ _ _ _=>by simp) (.inr rfl) ?_
 simp only[ER]
 have hk:fI w M (w.alloc (.cells cs t)) (λb=>M b∨b=w.heap.size):=
  ⟨by rw[size_alloc];omega,λb hb _=>rD w _ hb,λb hb h'=>h'.resolve_right ω⟩
 exact⟨w.heap.size,cs,t,rfl,Gr w _,.inr rfl,hr.cg hk⟩
theorem Tr.row{c:Ctx}{H:Nat→Option br}{w:World}{M:Nat→Prop}{ν:Nat→Value}(h:Mem c H w M ν){id:Nat}(bg:H id=none)(t:TypeId){e:Ty}{cs:Array Value}{l:List e.den}{cap:Nat}
  (hl:l.length≤cap) (hm:cap≤maxLen) (hs:cs.size=cap*e.size) (hr: ∀i (hi:i<l.length),Rd w M e ((cs.toList.drop (i*e.size)).take e.size) l[i]):
  Tr c H w M ν (cn H id (some (.own e l))) (w.alloc (.cells cs t)) (λb=>M b∨b=w.heap.size) (updν ν id (.slice (some ⟨w.heap.size,0,none⟩) l.length cap)):=by
 have hk:fI w M (w.alloc (.cells cs t)) (λb=>M b∨b=w.heap.size):=
  ⟨by rw[size_alloc];omega,λb hb _=>rD w _ hb,λb hb h'=>h'.resolve_right ω⟩
 refine Tr.alloc h bg _ _ _ trivial (λ_ _ _ _=>by simp) ?_ ?_
 ·simp only[fv];split
  ·exact .inl rfl
  ·exact .inr rfl
 ·simp only[ER]
  by_cases hc:cap=0
  ·subst hc
   have hl0:l=[]:=vo ω
   subst hl0
   exact .inl ⟨rfl,_,rfl⟩
  ·exact .inr ⟨w.heap.size,cs,t,cap,rfl,Gr w _,.inr rfl,ω,hl,hm,hs,λi hi=>(hr i hi).cg hk⟩
theorem Tr.drew{c:Ctx}{H:Nat→Option br}{w:World}{M:Nat→Prop}{ν:Nat→Value}(h:Mem c H w M ν):Tr c H w M ν H w.drew M ν:=by
 have hk:fI w M w.drew M:=⟨aH _,λ_ _ _=>rfl,λ_ _ h=>h⟩
 exact⟨⟨λi e he=>(h.jY i e he).cg hk λhm b hb=>⟨rfl,(h.jY i e he).xB hm hb⟩,h.A8,h.new,h.oN,h.gk,h.sub,h.Gp,h.frame,h.size,h.wS,h.os,h.tape,h.output⟩,hk,.refl H ν⟩
theorem size_setRow(w:World)(g:Nat)(cs:Array Value):(w.setRow g cs).heap.size=w.heap.size:=by simp[World.setRow]
theorem Tr.write{c:Ctx}{H:Nat→Option br}{w:World}{M:Nat→Prop}{ν:Nat→Value}(h:Mem c H w M ν){id:Nat}{e e':br}(bg:H id=some e)(hm:e.mut)(jt:e'.mut)(hl:e.lM e')
  {b:Nat} (hb:fv (ν id)=some b) {cs new:Array Value} {t:TypeId} (hg:w.heap[b]? =some (.cells cs t (0,0)))
  (Vr: ∀M',fI w M (w.setRow b new) M'→M' b→ER (w.setRow b new) M' (ν id) e')
  (qP: ∀τ x p j,e'= .gk τ x p j→H j≠none∧ ∃b',ν id= .pointer (some ⟨b',0,none⟩)∧(w.setRow b new).cell? ⟨b',cI p τ,none⟩=some (ν j):=by intro _ _ _ _ h;cases h):
  Tr c H w M ν (cn H id (some e')) (w.setRow b new) M ν:=by
 have hMb:M b:=(h.jY id e bg).xB hm hb
 have hk:fI w M (w.setRow b new) M:=
  ⟨by rw[size_setRow];exact aH _,λb' _ hm=>setRow_other w b b' new (λe=>hm (e▸hMb)),λ_ _ h=>h⟩
 refine⟨⟨λi e1 hi=> ?_,λi j e1 e2 b1 qy hi ui hj yO=> ?_,λi e1 b1 hi ui=> ?_,λi e1 l1 b1 hi=> ?_,sl h (λ_ _=>rfl) yN (λi τ x p j hi=> ?_),h.sub,λb1 nr=>by rw[size_setRow];exact h.Gp b1 nr,λb1 nr vk=> ?_,by rw[size_setRow];exact h.size,h.wS,h.os,h.tape,h.output⟩,hk,⟨λi e1 hi=> ?_,λi hi=>rfl⟩⟩
 ·by_cases ca:i=id
  ·subst ca;rw[ay]at hi;cases hi;exact Vr M hk hMb
  ·rw[az _ _ ca]at hi
   exact(h.jY i e1 hi).cg hk λui b1 nr=>⟨setRow_other w b b1 new (λe'=>h.A8 i id e1 e b1 ca hi ui bg hm nr (e'▸hb)),(h.jY i e1 hi).xB ui nr⟩
 ·by_cases ca:i=id
  ·subst ca;rw[ay]at hi;cases hi
   have I0:j≠i:=fc qy
   rw[az _ _ I0]at hj
   exact h.A8 i j e e2 b1 qy bg hm hj yO
  ·rw[az _ _ ca]at hi
   by_cases I0:j=id
   ·subst I0;exact h.A8 i j e1 e b1 qy hi ui bg hm
   ·rw[az _ _ I0]at hj;exact h.A8 i j e1 e2 b1 qy hi ui hj yO
 ·by_cases ca:i=id
  ·subst ca;exact h.new i e b1 bg hm
  ·rw[az _ _ ca]at hi;exact h.new i e1 b1 hi ui
 ·by_cases ca:i=id
  ·subst ca;rw[ay]at hi;cases hi
   cases e with
   |own e0 l0=>exact h.oN i e0 l0 b1 bg
   |obj _ _=>simp[br.lM]at hl
   |gk _ _ _ _=>simp[br.lM]at hl
   |pD _ _=>simp[br.mut]at hm
   |gone=>simp[br.mut]at hm
  ·rw[az _ _ ca]at hi;exact h.oN i e1 l1 b1 hi
 ·by_cases ca:i=id
  ·subst ca;rw[ay]at hi;cases hi
   obtain⟨h1,h2⟩:=qP _ _ _ _ rfl
   exact .inr ⟨yM h1,h2⟩
  ·rw[az _ _ ca]at hi
   exact .inl ⟨hi,λb1 nr=>setRow_other w b b1 new (λe1=>h.A8 i id _ e b1 ca hi trivial bg hm (by rw[nr];rfl) (e1▸hb))⟩
 ·rw[setRow_other w b b1 new]
  ·exact h.frame b1 nr vk
  ·intro hbb;subst hbb
   rcases h.new id e b1 bg hm hb with h'|h'
   ·omega
   ·exact vk h'
 ·by_cases ca:i=id
  ·subst ca;rw[bg]at hi;cases hi;exact⟨e',ay _ _ _,hl⟩
  ·exact⟨e1,by rw[az _ _ ca];exact hi,.refl e1⟩
theorem Tr.rename{c:Ctx}{H:Nat→Option br}{w:World}{M:Nat→Prop}{ν:Nat→Value}(h:Mem c H w M ν){j id:Nat}{e e':Ty}{l:List e.den}{l':List e'.den}(hj:H j=some (.own e l))(bg:H id=none)
  {v:Value} (hb:fv v=none∨fv v=fv (ν j)) (Vr:ER w M v (.own e' l')):
  Tr c H w M ν (cn (cn H j (some .gone)) id (some (.own e' l'))) w M (updν ν id v):=by
 have kq:j≠id:=λe=>by rw[e,bg]at hj;cases hj
 have h1:=(Tr.gone h j).mem
 have qz:cn H j (some .gone) id=none:=by rw[az _ _ (fc kq)];exact bg
 have hν: ∀i,i≠id→updν ν id v i=ν i:=λi hi=>by simp[updν,hi]
 have hνs:updν ν id v id=v:=by simp[updν]
 refine⟨⟨λi e1 hi=> ?_,λi k e1 e2 b1 qy hi ui hk yO=> ?_,λi e1 b1 hi ui=> ?_,λi e1 l1 b1 hi=> ?_,sl h1 (λi hi=>hν i (λe=>hi (e▸qz))) yN (λi τ x p j hi=> .inl ⟨A9 (λ_ _ _ _=>by simp) hi,λ_ _=>rfl⟩),h.sub,h.Gp,h.frame,h.size,h.wS,h.os,h.tape,h.output⟩,.refl w M,⟨λi e1 hi=> ?_,λi hi=> ?_⟩⟩
 ·by_cases ca:i=id
  ·subst ca;rw[ay]at hi;cases hi;rw[hνs];exact Vr
  ·rw[az _ _ ca]at hi;rw[hν i ca];exact h1.jY i e1 hi
 ·by_cases ca:i=id
  ·subst ca;rw[ay]at hi;cases hi;rw[hνs]
   have NV:k≠i:=fc qy
   rw[az _ _ NV]at hk;rw[hν k NV]
   intro nr
   rcases hb with hb|hb
   ·rw[hb]at nr;cases nr
   ·rw[hb]at nr
    by_cases hkj:k=j
    ·subst hkj;rw[ay]at hk;cases hk;simp[br.mut]at yO
    ·rw[az _ _ hkj]at hk;exact h.A8 j k _ e2 b1 (fc hkj) hj trivial hk yO nr
  ·rw[az _ _ ca]at hi;rw[hν i ca]
   by_cases NV:k=id
   ·subst NV;rw[hνs]
    intro nr vk
    rcases hb with hb|hb
    ·rw[hb]at vk;cases vk
    ·rw[hb]at vk
     by_cases Je:i=j
     ·subst Je;rw[ay]at hi;cases hi;simp[br.mut]at ui
     ·rw[az _ _ Je]at hi;exact h.A8 j i _ e1 b1 (fc Je) hj trivial hi ui vk nr
   ·rw[az _ _ NV]at hk;rw[hν k NV];exact h1.A8 i k e1 e2 b1 qy hi ui hk yO
 ·by_cases ca:i=id
  ·subst ca;rw[hνs];intro nr
   rcases hb with hb|hb
   ·rw[hb]at nr;cases nr
   ·rw[hb]at nr;exact h.new j _ b1 hj trivial nr
  ·rw[az _ _ ca]at hi;rw[hν i ca];exact h1.new i e1 b1 hi ui
 ·by_cases ca:i=id
  ·subst ca;rw[hνs];intro nr
   rcases hb with hb|hb
   ·rw[hb]at nr;cases nr
   ·rw[hb]at nr;exact h.oN j e l b1 hj nr
  ·rw[az _ _ ca]at hi;rw[hν i ca];exact h1.oN i e1 l1 b1 hi
 ·by_cases Je:i=j
  ·subst Je;exact⟨.gone,by rw[az _ _ kq,ay],by cases e1<;>simp[br.lM]⟩
  ·have ca:i≠id:=λe=>by rw[e,bg]at hi;cases hi
   exact⟨e1,by rw[az _ _ ca,az _ _ Je];exact hi,.refl e1⟩
 ·exact hν i (λe=>hi (e▸bg))
theorem Tr.Jf{c:Ctx}{H:Nat→Option br}{w:World}{M:Nat→Prop}{ν:Nat→Value}(h:Mem c H w M ν){id:Nat}{e e':br}(bg:H id=some e)(hm:e.mut)(jt:e'.mut)(hl:e.lM e')(qX: ∀e0 l0,e'≠ .own e0 l0)
  (Vr:ER w M (ν id) e') (qP: ∀τ x p j,e'= .gk τ x p j→H j≠none∧ ∃b',ν id= .pointer (some ⟨b',0,none⟩)∧w.cell? ⟨b',cI p τ,none⟩=some (ν j)):
  Tr c H w M ν (cn H id (some e')) w M ν:=by
 refine⟨⟨λi e1 hi=> ?_,λi j e1 e2 b1 qy hi ui hj yO=> ?_,λi e1 b1 hi ui=> ?_,λi e1 l1 b1 hi=> ?_,sl h (λ_ _=>rfl) yN (λi τ x p j hi=> ?_),h.sub,h.Gp,h.frame,h.size,h.wS,h.os,h.tape,h.output⟩,.refl w M,⟨λi e1 hi=> ?_,λi hi=>rfl⟩⟩
 ·by_cases ca:i=id
  ·subst ca;rw[ay]at hi;cases hi;exact Vr
  ·rw[az _ _ ca]at hi;exact h.jY i e1 hi
 ·by_cases ca:i=id
  ·subst ca;rw[ay]at hi;cases hi
   have I0:j≠i:=fc qy
   rw[az _ _ I0]at hj
   exact h.A8 i j e e2 b1 qy bg hm hj yO
  ·rw[az _ _ ca]at hi
   by_cases I0:j=id
   ·subst I0;exact h.A8 i j e1 e b1 qy hi ui bg hm
   ·rw[az _ _ I0]at hj;exact h.A8 i j e1 e2 b1 qy hi ui hj yO
 ·by_cases ca:i=id
  ·subst ca;exact h.new i e b1 bg hm
  ·rw[az _ _ ca]at hi;exact h.new i e1 b1 hi ui
 ·by_cases ca:i=id
  ·subst ca;rw[ay]at hi;cases hi;exact absurd rfl (qX _ _)
  ·rw[az _ _ ca]at hi;exact h.oN i e1 l1 b1 hi
 ·by_cases ca:i=id
  ·subst ca;rw[ay]at hi;cases hi
   obtain⟨h1,h2⟩:=qP _ _ _ _ rfl
   exact .inr ⟨yM h1,h2⟩
  ·rw[az _ _ ca]at hi;exact .inl ⟨hi,λ_ _=>rfl⟩
 ·by_cases ca:i=id
  ·subst ca;rw[bg]at hi;cases hi;exact⟨e',ay _ _ _,hl⟩
  ·exact⟨e1,by rw[az _ _ ca];exact hi,.refl e1⟩
theorem Tr.nothing{c:Ctx}{w:World}{M:Nat→Prop}{ν:Nat→Value}{H:Nat→Option br}(h:Mem c H w M ν){id:Nat}(bg:H id=none)(e:Ty)(ad:Option Addr):
  Tr c H w M ν (cn H id (some (.own e []))) w M (updν ν id (.slice ad 0 0)):=by
 have hν: ∀i,i≠id→updν ν id (.slice ad 0 0) i=ν i:=λi hi=>by simp[updν,hi]
 have hνs:updν ν id (.slice ad 0 0) id= .slice ad 0 0:=by simp[updν]
 have hb:fv (.slice ad 0 0)=none:=by cases ad<;>simp[fv]
 refine⟨⟨λi e1 hi=> ?_,λi k e1 e2 b1 qy hi ui hk yO=> ?_,λi e1 b1 hi ui=> ?_,λi e1 l1 b1 hi=> ?_,sl h (λi hi=>hν i (λe=>hi (e▸bg))) yN (λi τ x p j hi=> .inl ⟨A9 (λ_ _ _ _=>by simp) hi,λ_ _=>rfl⟩),h.sub,h.Gp,h.frame,h.size,h.wS,h.os,h.tape,h.output⟩,.refl w M,⟨λi e1 hi=> ?_,λi hi=>hν i (λe=>hi (e▸bg))⟩⟩
 ·by_cases ca:i=id
  ·subst ca;rw[ay]at hi;cases hi;rw[hνs];simp only[ER];exact .inl ⟨trivial,ad,rfl⟩
  ·rw[az _ _ ca]at hi;rw[hν i ca];exact h.jY i e1 hi
 ·by_cases ca:i=id
  ·subst ca;rw[hνs,hb];intro h';cases h'
  ·rw[az _ _ ca]at hi;rw[hν i ca]
   by_cases NV:k=id
   ·subst NV;rw[hνs,hb];intro _ h';cases h'
   ·rw[az _ _ NV]at hk;rw[hν k NV];exact h.A8 i k e1 e2 b1 qy hi ui hk yO
 ·by_cases ca:i=id
  ·subst ca;rw[hνs,hb];intro h';cases h'
  ·rw[az _ _ ca]at hi;rw[hν i ca];exact h.new i e1 b1 hi ui
 ·by_cases ca:i=id
  ·subst ca;rw[hνs,hb];intro h';cases h'
  ·rw[az _ _ ca]at hi;rw[hν i ca];exact h.oN i e1 l1 b1 hi
 ·have ca:i≠id:=λe=>by rw[e,bg]at hi;cases hi
  exact⟨e1,by rw[az _ _ ca];exact hi,.refl e1⟩
end VM
end
section
namespace VM
open Go
theorem bx{α:Type}{υ τ:Ty}{y:υ.den}{k:τ.den→Option α}{r:α}(h:cL υ τ y k=some r): ∃e:υ=τ,k (e▸y)=some r:=by
 unfold cL at h
 split at h
 ·rename_i e;exact⟨e,h⟩
 ·cases h
theorem dX{α:Type}{υ τ:Ty}{k:Option α}{r:α}(h:jr υ τ k=some r):υ=τ∧k=some r:=by
 unfold jr at h
 split at h
 ·rename_i e;exact⟨e,h⟩
 ·cases h
theorem V.slice{w:World}{M:Nat→Prop}{e:Ty}{v:Value}{l:List e.den}:V w M (.slice e) v l↔Rd w M (.slice e) [v] l:=by
 unfold V;rw[ah (by simp[Ty.isAgg])]
def Fz(H H1:Nat→Option br):Prop:= ∀i,H1 i=H i∨ ∃e l,H i=some (.own e l)∧H1 i=some (.pD e l)
theorem Fz.refl(H:Nat→Option br):Fz H H:=λ_=> .inl rfl
theorem Fz.none{H H1:Nat→Option br}(h:Fz H H1){i:Nat}(hi:H i=none):H1 i=none:=by
 rcases h i with h'|⟨e,l,h',_⟩
 ·rw[h',hi]
 ·rw[hi]at h';cases h'
theorem Fz.obj{H H1:Nat→Option br}(h:Fz H H1){i:Nat}{τ:Ty}{x:τ.den}(hi:H i=some (.obj τ x)):H1 i=some (.obj τ x):=by
 rcases h i with h'|⟨e,l,h',_⟩
 ·rw[h',hi]
 ·rw[hi]at h';cases h'
theorem Cw{H:Nat→Option br}{id:Nat}{e:Option br}(h:H id=e):cn H id e=H:=by
 funext i
 by_cases hi:i=id
 ·subst hi;rw[ay,h]
 ·rw[az _ _ hi]
theorem kY{α:Type}{c:Ctx}{H H1:Nat→Option br}{w:World}{M:Nat→Prop}{ν:Nat→Value}(hz:Fz H H1)(hm:Mem c H1 w M ν){a:bA}{v:Value}(hv:VR w M H1 ν a v){τ:Ty}
  {k:τ.den→List Nat→jF→Option α} {r:α} (h:m1 true a H τ k=some r):
  ∃y rd ups M',k y rd ups=some r∧Tr c H1 w M ν (c0 H1 ups) w M' ν∧V w M' τ v y∧Fz H (c0 H1 ups)∧ ∀i,rd.contains i=false→c0 H1 ups i=H1 i:=by
 unfold m1 at h
 split at h
 ·
  obtain⟨e,h⟩:=bx h
  subst e
  simp only[VR]at hv
  exact⟨_,[],[],M,h,.refl hm,hv,hz,λ_ _=>rfl⟩
 ·
  obtain⟨e,h⟩:=bx h
  subst e
  simp only[VR]at hv
  exact⟨_,[],[],M,h,.refl hm,hv.1,hz,λ_ _=>rfl⟩
 ·
  split at h
  ·rename_i e k' _
   simp only[VR]at hv
   obtain⟨a,rfl⟩:=hv
   refine⟨[],[],[],M,h,.refl hm,V.slice.2 ?_,hz,λ_ _=>rfl⟩
   simp only[Rd]
   exact⟨a,0,rfl,aH _,λi hi=>absurd hi (by simp)⟩
  ·cases h
 ·rename_i id
  simp only[VR]at hv
  obtain⟨_,rfl⟩:=hv
  split at h
  ·rename_i e l bg
   obtain⟨e',h⟩:=bx h
   subst e'
   rcases hz id with h1|⟨e1,l1,h1,h2⟩
   ·rw[bg]at h1
    obtain⟨M',gy,hV,_⟩:=Tr.freeze hm h1
    refine⟨_,_,_,M',h,gy,hV,λi=> ?_,λi hi=>az _ _ (by simpa using hi)⟩
    show cn H1 id (some (.pD e l)) i=H i∨_
    by_cases hi:i=id
    ·subst hi;exact .inr ⟨e,l,bg,ay _ _ _⟩
    ·rw[az _ _ hi]
     rcases hz i with h'|⟨e2,l2,h2,h3⟩
     ·exact .inl h'
     ·exact .inr ⟨e2,l2,h2,by show cn H1 id _ i=_;rw[az _ _ hi];exact h3⟩
   ·rw[bg]at h1;cases h1
    have:=hm.jY id _ h2
    simp only[ER]at this
    refine⟨_,_,[(id,some (.pD e l))],M,h,?_,V.slice.2 this.1,?_,λi hi=>az _ _ (by simpa using hi)⟩
    ·show Tr c H1 w M ν (cn H1 id (some (.pD e l))) w M ν
     rw[Cw h2];exact .refl hm
    ·show Fz H (cn H1 id (some (.pD e l)))
     rw[Cw h2];exact hz
  ·rename_i e l bg
   obtain⟨e',h⟩:=bx h
   subst e'
   have h1:H1 id=some (.pD e l):=by
    rcases hz id with h1|⟨e1,l1,h1,h2⟩
    ·rw[h1,bg]
    ·rw[bg]at h1;cases h1
   have:=hm.jY id _ h1
   simp only[ER]at this
   exact⟨_,_,_,M,h,.refl hm,V.slice.2 this.1,hz,λ_ _=>rfl⟩
  ·cases h
 ·cases h
def Src(w:World)(M:Nat→Prop)(e:Ty)(v:Value)(l:List e.den):Prop:=
 ∃a cap,v= .slice a l.length cap∧ ∀i (h:i<l.length),∃b off cs,a=some ⟨b,off,none⟩∧At w b (off+i*e.size) cs∧Rd w M e cs l[i]
theorem Src.ab2{w:World}{M:Nat→Prop}{e:Ty}{v:Value}{l:List e.den}(h:V w M (.slice e) v l):Src w M e v l:=by
 have h:=V.slice.1 h
 simp only[Rd,fQ,fB]at h
 obtain⟨a,cap,rfl,_,hr⟩:=h
 refine⟨a,cap,rfl,λi hi=> ?_⟩
 obtain⟨b,off,ha,_,_,cs,pE,kB⟩:=hr i hi
 exact⟨b,off,cs,ha,pE,kB⟩
theorem DM{α:Type}{c:Ctx}{H:Nat→Option br}{w:World}{M:Nat→Prop}{ν:Nat→Value}(hm:Mem c H w M ν){a:bA}{v:Value}(hv:VR w M H ν a v){e:Ty}
  {k:List e.den→List Nat→jF→Option α} {r:α} (h:m1 false a H (.slice e) k=some r):
  ∃y rd,k y rd []=some r∧Src w M e v y:=by
 unfold m1 at h
 split at h
 ·obtain⟨e',h⟩:=bx h
  subst e'
  simp only[VR]at hv
  exact⟨_,[],h,.ab2 hv⟩
 ·obtain⟨e',h⟩:=bx h
  subst e'
  simp only[VR]at hv
  exact⟨_,[],h,.ab2 hv.1⟩
 ·have h:k [] [] []=some r:=h
  simp only[VR]at hv
  obtain⟨a,rfl⟩:=hv
  exact⟨[],[],h,a,0,rfl,λi hi=>absurd hi (by simp)⟩
 ·rename_i id
  simp only[VR]at hv
  obtain⟨_,rfl⟩:=hv
  split at h
  ·rename_i e1 l bg
   obtain⟨e',h⟩:=bx h
   cases e'
   refine⟨_,_,h,?_⟩
   have:=hm.jY id _ bg
   simp only[ER]at this
   rcases this with⟨rfl,a,hv⟩|⟨b,cs,t,cap,hv,hb,hM,hc,hl,Fs,hs,hr⟩
   ·exact⟨a,0,hv,λi hi=>absurd hi (by simp)⟩
   ·refine⟨_,cap,hv,λi hi=>⟨b,0,_,rfl,?_,hr i hi⟩⟩
    rw[gm]
    exact At.of_block hb _ _
  ·rename_i e1 l bg
   obtain⟨e',h⟩:=bx h
   cases e'
   have:=hm.jY id _ bg
   simp only[ER]at this
   exact⟨_,_,h,.ab2 (V.slice.2 this.1)⟩
  ·cases h
 ·cases h
theorem Src.cells{w:World}{M:Nat→Prop}{e:Ty}{v:Value}{l:List e.den}(h:Src w M e v l)(kq:l≠[]):
  ∃b off cap news,v= .slice (some ⟨b,off,none⟩) l.length cap∧news.length=l.length*e.size∧At w b off news∧
   (∀i (hi:i<l.length),Rd w M e ((news.drop (i*e.size)).take e.size) l[i])∧ ∀u∈news,u.oneCell'=true:=by
 obtain⟨a,cap,rfl,hr⟩:=h
 have h0:0<l.length:=pO.2 kq
 obtain⟨b,off,_,ha,_⟩:=hr 0 h0
 subst ha
 have key: ∀n,n≤l.length→ ∃news:List Value,news.length=n*e.size∧At w b off news∧
   (∀i (hi:i<l.length),i<n→Rd w M e ((news.drop (i*e.size)).take e.size) l[i])∧ ∀u∈news,u.oneCell'=true:=by
  intro n
  induction n with
  |zero=>exact λ_=>⟨[],by simp,λj v hj=>by simp at hj,λi _ hi=>ω,by simp⟩
  |succ n ih=>
   intro hn
   obtain⟨news,hl,pE,kB,Cx⟩:=ih ω
   obtain⟨b',aCr,cs,ha,avh,Vs⟩:=hr n ω
   cases ha
   refine⟨news++cs,by rw[aS,hl,Vs.length,eG,kS],At.append.2 ⟨pE,by rw[hl];exact avh⟩,λi hi ka=> ?_,λu hu=> ?_⟩
   ·by_cases eU:i<n
    ·have h1:(i+1)*e.size≤n*e.size:=kz _ eU
     rw[eG,kS]at h1
     rw[w9 ω,yH (by rw[eg];omega)]
     exact kB i hi eU
    ·obtain rfl:i=n:=ω
     rw[mv hl,iy (by rw[Vs.length];exact aH _)]
     exact Vs
   ·rcases bl.1 hu with hu|hu
    ·exact Cx u hu
    ·exact Vs.lJ u hu
 obtain⟨news,hl,pE,kB,Cx⟩:=key l.length (aH _)
 exact⟨b,off,cap,news,rfl,hl,pE,λi hi=>kB i hi hi,Cx⟩
structure Core(c:Ctx)(σ:St)(tm:Array Value)(w:World)(M:Nat→Prop)(ν:Nat→Value):Prop where
 mem:Mem c σ.H w M ν
 tmp: ∀i,VR w M σ.H ν (σ.T i) (tm.getD i undef)
theorem Vt(w:World)(M:Nat→Prop)(H:Nat→Option br)(ν:Nat→Value)(v:Value):VR w M H ν (cvA v) v:=by
 unfold cvA
 split<;>simp[VR,V,Ty.isAgg,Rd]
theorem Core.op{c:Ctx}{σ:St}{tm:Array Value}{w:World}{M:Nat→Prop}{ν:Nat→Value}(h:Core c σ tm w M ν)(ds:List Deferred)(x:Operand):
  VR w M σ.H ν (σ.ρ x) (({tmps:=tm,defers:=ds}:Act).eval x):=by
 cases x with
 |tmp t=>exact h.tmp t
 |const v=>exact Vt w M σ.H ν v
 |global g=>simp[St.ρ,VR]
 |func f=>simp[St.ρ,VR,jO,Act.eval]
def ao1(P:Program)(t:TypeId)(τ:Ty):Prop:=
 ∀(w:World) (M:Nat→Prop) (u v:Value) (x y:τ.den) (b:BinOp) (xo yo:Operand),V w M τ u x→V w M τ v y→
  (eqGuard b t xo yo u v).run P w= .ok () w∧(binOp .eql t u v).run P w= .ok (.bool (pC τ x y)) w∧(binOp .neq t u v).run P w= .ok (.bool (!pC τ x y)) w
structure EnvTy(P:Program)(E:Env):Prop where
 ty: ∀t τ,E.ty t=some τ→kW P τ t
 eq: ∀t τ,E.ty t=some τ→τ.comparable=true→τ.isAgg=true→ao1 P t τ
end VM
end
section
namespace VM
open Go
variable{P:Program}
theorem Ba{o:Oper}{ρ:Operand→Value}{t:TypeId}{i:TypeInfo}{z:Value}(ho:o.op= .alloc t)(hi:P.info? t=some i)(hz:i.zero=some z)(w:World):
  (execOp ρ o).run P w= .ok (.value (.pointer (some ⟨w.heap.size,0,none⟩))) (w.alloc (.cells z.cells t)):=by
 simp[execOp,ho,Instr.alloc,zeroValue,typeInfo,hi,hz,newVar,newRow]
theorem Gs{o:Oper}{ρ:Operand→Value}{t:TypeId}{x:Operand}(ho:o.op= .box t x)(w:World):
  (execOp ρ o).run P w= .ok (.value (.pointer (some ⟨w.heap.size,0,none⟩))) (w.alloc (.cells (ρ x).cells t)):=by
 simp[execOp,ho,Instr.box,newVar,newRow]
theorem rE{τ:Ty}{t:TypeId}(h:kW P τ t)(w:World):(isAgg t).run P w= .ok τ.isAgg w:=by
 unfold kW at h
 cases τ<;>simp only[gz]at h
 ·simp[isAgg,run_underlying h.2,Ty.isAgg]
 ·simp[isAgg,run_underlying h.2,Ty.isAgg]
 ·simp[isAgg,run_underlying h.2,Ty.isAgg]
 ·obtain⟨_,e',h',_⟩:=h;simp[isAgg,run_underlying h',Ty.isAgg]
 ·obtain⟨_,e',h',_⟩:=h;simp[isAgg,run_underlying h',Ty.isAgg]
 ·obtain⟨_,e',f,h',_⟩:=h;simp[isAgg,run_underlying h',Ty.isAgg]
 ·obtain⟨_,e',h',_⟩:=h;simp[isAgg,run_underlying h',Ty.isAgg]
theorem dv{τ:Ty}{t:TypeId}(h:kW P τ t)(w:World):(Go.sizeOf t).run P w= .ok τ.size w:=by
 obtain⟨i,hi,hs,_⟩:=h.base
 simp[Go.sizeOf,typeInfo,hi,hs]
theorem DN{w:World}{M:Nat→Prop}{τ:Ty}{t:TypeId}(h:kW P τ t){b off:Nat}{cs:List Value}{x:τ.den}(ha:At w b off cs)(hr:Rd w M τ cs x):
  (loadVar t ⟨b,off,none⟩).run P w= .ok (ck τ cs) w:=by
 have hl:(loadCells ⟨b,off,none⟩ τ.size).run P w= .ok cs.toArray w:=by
  rw[←hr.length]
  exact run_loadCells_list w _ cs λj v hj=>by rw[show(⟨b,off,none⟩:Addr).add j=⟨b,off+j,none⟩from by unfold Addr.add;split<;>simp_all];exact ha j v hj
 unfold ck
 by_cases Gt:τ.isAgg=true
 ·simp[loadVar,rE h,Gt,dv h,hl]
 ·obtain⟨v,rfl,hc⟩:=hr.scalar (by simpa using Gt)
  have h0:=ha 0 v rfl
  simp only[mz]at h0
  simp[loadVar,rE h,Gt,load,Sem.run,h0]
theorem DO{w:World}{τ:Ty}{t:TypeId}(h:kW P τ t)(Gt:τ.isAgg=true){b off:Nat}{cs:List Value}(ha:At w b off cs)(hl:cs.length=τ.size):
  (loadVar t ⟨b,off,none⟩).run P w= .ok (.agg cs.toArray) w:=by
 have hl:(loadCells ⟨b,off,none⟩ τ.size).run P w= .ok cs.toArray w:=by
  rw[←hl]
  exact run_loadCells_list w _ cs λj v hj=>by rw[show(⟨b,off,none⟩:Addr).add j=⟨b,off+j,none⟩from by unfold Addr.add;split<;>simp_all];exact ha j v hj
 simp[loadVar,rE h,Gt,dv h,hl]
theorem Gu{o:Oper}{ρ:Operand→Value}{t:TypeId}{x:Operand}(ho:o.op= .load t x){w:World}{τ:Ty}(h:kW P τ t)(Gt:τ.isAgg=true){b off:Nat}{cs:List Value}
  (hx:ρ x= .pointer (some ⟨b,off,none⟩)) (ha:At w b off cs) (hl:cs.length=τ.size):
  (execOp ρ o).run P w= .ok (.value (.agg cs.toArray)) w:=by
 simp[execOp,ho,hx,Instr.loadAt,Instr.sureAddr,DO h Gt ha hl]
theorem xD{o:Oper}{ρ:Operand→Value}{t:TypeId}{x:Operand}(ho:o.op= .load t x){w:World}{M:Nat→Prop}{τ:Ty}(h:kW P τ t){b off:Nat}{cs:List Value}{y:τ.den}
  (hx:ρ x= .pointer (some ⟨b,off,none⟩)) (ha:At w b off cs) (hr:Rd w M τ cs y):
  (execOp ρ o).run P w= .ok (.value (ck τ cs)) w:=by
 simp[execOp,ho,hx,Instr.loadAt,Instr.sureAddr,DN h ha hr]
theorem lN{o:Oper}{ρ:Operand→Value}{t:TypeId}{x y:Operand}(ho:o.op= .store t x y){w:World}{τ:Ty}(h:kW P τ t){b off:Nat}{cur:Array Value}{te:TypeId}
  (hx:ρ x= .pointer (some ⟨b,off,none⟩)) (hg:w.heap[b]? =some (.cells cur te (0,0))) (hs:(ρ y).cells.size=τ.size) (hf:off+τ.size≤cur.size) (h1: ∀v∈(ρ y).cells.toList,v.oneCell'=true):
  (execOp ρ o).run P w= .ok .skip (w.setRow b (cur.toList.take off++(ρ y).cells.toList++cur.toList.drop (off+(ρ y).cells.toList.length)).toArray):=by
 have vl:=run_storeCells_at (P:=P) b off te (ρ y).cells.toList 0 cur w hg (by simp[hs];omega) h1
 simp only[mz]at vl
 simp[execOp,ho,hx,Instr.storeAt,Instr.sureAddr,storeVar,dv h,hs,vl]
theorem uQ{o:Oper}{ρ:Operand→Value}{t:TypeId}{x:Operand}{n:Nat}(ho:o.op= .fieldAddr t x n){w:World}{fs:Array Field}{f:Field}{b off:Nat}{υ:Ty}
  (hu:P.underlying t=some (.struct fs)) (hf:fs[n]? =some f) (hl:kW P υ f.type) (hz:υ.size≠0) (hx:ρ x= .pointer (some ⟨b,off,none⟩)):
  ∃a,(execOp ρ o).run P w= .ok (.value a) w∧a= .pointer (some ⟨b,off+f.offset,none⟩):=by
 refine⟨_,?_,rfl⟩
 simp[execOp,ho,hx,Instr.fieldAt,Instr.sureAddr,run_underlying hu,hf,fieldPlace,Addr.add_lit,dv hl,hz]
theorem Bb{τ:Ty}{t:TypeId}(h:kW P τ t){w:World}{M:Nat→Prop}{cs:Array Value}{off:Nat}{x:τ.den}(hr:Rd w M τ ((cs.toList.drop off).take τ.size) x):
  (part t cs off).run P w= .ok (ck τ ((cs.toList.drop off).take τ.size)) w:=by
 have hl:=hr.length
 unfold ck
 by_cases Gt:τ.isAgg=true
 ·simp only[part,Sem.run_bind,rE h,Result.andThen_ok,Gt,g9,dv h]
  simp
  rw[bZ,eg,bk]at hl
  apply g8
  simp only[Array.toList_extract,List.extract_eq_take_drop,AE]
 ·obtain⟨v,hv,hc⟩:=hr.scalar (by simpa using Gt)
  rw[hv]
  have h0:cs[off]? =some v:=by
   have:=fj (λl=>l[0]?) hv
   simp only[mS,mT]at this
   split at this
   ·simpa using this
   ·simp at this
  simp[part,rE h,Gt,h0]
theorem Lt{o:Oper}{ρ:Operand→Value}{t:TypeId}{x:Operand}{n:Nat}(ho:o.op= .field t x n){w:World}{M:Nat→Prop}{fs:Array Field}{f:Field}{cs:Array Value}{υ:Ty}{y:υ.den}
  (hu:P.underlying t=some (.struct fs)) (hf:fs[n]? =some f) (hl:kW P υ f.type) (hx:ρ x= .agg cs) (hr:Rd w M υ ((cs.toList.drop f.offset).take υ.size) y):
  (execOp ρ o).run P w= .ok (.value (ck υ ((cs.toList.drop f.offset).take υ.size))) w:=by
 simp[execOp,ho,hx,Instr.field,run_underlying hu,hf,asAgg,Bb hl hr]
theorem mf{o:Oper}{ρ:Operand→Value}{t e:TypeId}{x i:Operand}(ho:o.op= .indexAddr t x i){w:World}{τe:Ty}{b off len cap:Nat}{k:IntKind}{n:Int}
  (hu:P.underlying t=some (.slice e)) (he:kW P τe e) (hx:ρ x= .slice (some ⟨b,off,none⟩) len cap) (hi:ρ i= .int k n) (h0:0≤n) (h1:n<(len:Int)):
  (execOp ρ o).run P w= .ok (.value (.pointer (some ⟨b,off+n.toNat*τe.size,none⟩))) w:=by
 simp[execOp,ho,hx,hi,Instr.indexAt,asIntOf,run_underlying hu,h0,h1,dv he,Addr.add_lit]
theorem tG{o:Oper}{ρ:Operand→Value}{t e:TypeId}{x i:Operand}(ho:o.op= .indexAddr t x i){w:World}{τe:Ty}{b off len:Nat}{k:IntKind}{n:Int}
  (hu:P.underlying t=some (.array len e)) (he:kW P τe e) (hx:ρ x= .pointer (some ⟨b,off,none⟩)) (hi:ρ i= .int k n) (h0:0≤n) (h1:n<(len:Int)):
  (execOp ρ o).run P w= .ok (.value (.pointer (some ⟨b,off+n.toNat*τe.size,none⟩))) w:=by
 simp[execOp,ho,hx,hi,Instr.indexAt,Instr.sureAddr,asIntOf,run_underlying hu,h0,h1,dv he,Addr.add_lit]
theorem Jg{o:Oper}{ρ:Operand→Value}{t e:TypeId}{x i:Operand}(ho:o.op= .index t x i){w:World}{M:Nat→Prop}{τe:Ty}{len:Nat}{k:IntKind}{n:Int}{cs:Array Value}{y:τe.den}
  (hu:P.underlying t=some (.array len e)) (he:kW P τe e) (hx:ρ x= .agg cs) (hi:ρ i= .int k n) (h0:0≤n) (h1:n<(len:Int)) (hr:Rd w M τe ((cs.toList.drop (n.toNat*τe.size)).take τe.size) y):
  (execOp ρ o).run P w= .ok (.value (ck τe ((cs.toList.drop (n.toNat*τe.size)).take τe.size))) w:=by
 simp[execOp,ho,hx,hi,Instr.index,asIntOf,run_underlying hu,h0,h1,dv he,Bb he hr]
theorem Gv{o:Oper}{ρ:Operand→Value}{x:Operand}{n:Nat}(ho:o.op= .extract x n){w:World}{us:List Value}{v:Value}(hx:ρ x= .tuple us.toArray)(hv:us[n]? =some v):
  (execOp ρ o).run P w= .ok (.value v) w:=by
 simp[execOp,ho,hx,Instr.extract,hv]
theorem NW{o:Oper}{ρ:Operand→Value}{x y z:Operand}(ho:o.op= .pick x y z){w:World}{b:Bool}(hx:ρ x= .bool b):
  (execOp ρ o).run P w= .ok (.value (if b then ρ y else ρ z)) w:=by
 simp[execOp,ho,hx,asBool]
theorem wD{o:Oper}{ρ:Operand→Value}{x:Operand}(ho:o.op= .nilCheck x){w:World}{a:Addr}(hx:ρ x= .pointer (some a)):
  (execOp ρ o).run P w= .ok (.value (.pointer (some a))) w:=by
 simp[execOp,ho,hx]
theorem EN{o:Oper}{ρ:Operand→Value}{f:FuncId}{first caps:Array Operand}(ho:o.op= .makeFunc (.func f) first caps)(hf:first= #[]){w:World}:
  (execOp ρ o).run P w= .ok (.value (.func (.func f) #[] (caps.map ρ))) w:=by
 subst hf
 simp[execOp,ho,Instr.makeFunc]
theorem Gw{o:Oper}{ρ:Operand→Value}{s d:TypeId}{x:Operand}(ho:o.op= .convert s d x){w:World}{k k':IntKind}{n:Int}(hs:(P.underlying s).isSome=true)(hd:P.underlying d=some (.int k))(hx:ρ x= .int k' n):
  (execOp ρ o).run P w= .ok (.value (.int k (k.wrap n))) w:=by
 obtain⟨ds,hs⟩:=Option.isSome_iff_exists.1 hs
 simp[execOp,ho,hx,convert,run_underlying hs,run_underlying hd,Conv.intToInt]
theorem xE{o:Oper}{ρ:Operand→Value}{u:UnOp}{t:TypeId}{x:Operand}(ho:o.op= .unOp u t x){w:World}{v:Value}(h:(Op.unary u (ρ x)).run P w= .ok v w):
  (execOp ρ o).run P w= .ok (.value v) w:=by
 simp[execOp,ho,h]
theorem qY{o:Oper}{ρ:Operand→Value}{b:BinOp}{t t':TypeId}{x y:Operand}(ho:o.op= .binOp b t x y t'){w:World}{v:Value}
  (hg:(eqGuard b t x y (ρ x) (ρ y)).run P w= .ok () w) (h:(binOp b t (ρ x) (ρ y)).run P w= .ok v w):
  (execOp ρ o).run P w= .ok (.value v) w:=by
 simp[execOp,ho,hg,h]
theorem qA{b:BinOp}{t:TypeId}{x y:Operand}{k k':IntKind}{m n:Int}(w:World):(eqGuard b t x y (.int k m) (.int k' n)).run P w= .ok () w:=by
 cases b<;>simp[eqGuard]
theorem Cy{b:BinOp}{t:TypeId}{x y:Operand}{m n:Bool}(w:World):(eqGuard b t x y (.bool m) (.bool n)).run P w= .ok () w:=by
 cases b<;>simp[eqGuard]
theorem EO{b:BinOp}{t:TypeId}{x y:Operand}{m n:ByteArray}(w:World):(eqGuard b t x y (.string m) (.string n)).run P w= .ok () w:=by
 cases b<;>simp[eqGuard]
theorem n6{o:Oper}{ρ:Operand→Value}{b:Builtin}{args:Array Operand}{ts:Array TypeId}(ho:o.op= .call {callee:= .builtin b,args,argTypes:=ts}){w:World}:
  ∃cs,(execOp ρ o).run P w=(builtin b ts o.type cs (args.map ρ)).run P w:=by
 refine⟨args.map fun| .const _=>true|_=>false,?_⟩
 simp[execOp,ho,resolve,invoke]
 rfl
end VM
end
