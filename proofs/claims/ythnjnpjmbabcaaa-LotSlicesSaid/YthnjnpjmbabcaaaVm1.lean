/- A part of the proof of LotSlices of layer 23: a machine that reads a function of the program as an equation between values. -/
import Derived.Test.YthnjnpjmbabcaaaVm0
import Derived.WalkLawsBesides
set_option linter.all false
open List renaming getD→γ
section
namespace VM
open Go
def w8(P:Program)(τ:Ty)(t:TypeId):Prop:=
 ∃i,P.info? t=some i∧i.size=τ.size∧i.zero=some (aC τ τ.aL)∧i.bytes≤2048
def cL(P:Program):Ty→TypeId ⊕ (Array Field×Nat×Nat)→Prop
 | .int k,.inl t=>w8 P (.int k) t∧P.underlying t=some (.int k)
 | .bool,.inl t=>w8 P .bool t∧P.underlying t=some .bool
 | .str,.inl t=>w8 P .str t∧P.underlying t=some .string
 | .slice e,.inl t=>w8 P (.slice e) t∧ ∃e',P.underlying t=some (.slice e')∧cL P e (.inl e')
 | .arr n e,.inl t=>w8 P (.arr n e) t∧ ∃e',P.underlying t=some (.array n e')∧cL P e (.inl e')
 | .unit,.inl t=>w8 P .unit t∧ ∃fs,P.underlying t=some (.struct fs)∧fs.size=0
 | .unit,.inr (fs,n,_)=>fs.size=n
 | .pair a b,.inl t=>w8 P (.pair a b) t∧ ∃fs f,P.underlying t=some (.struct fs)∧fs[0]? =some f∧f.offset=0∧cL P a (.inl f.type)∧cL P b (.inr (fs,1,a.size))
 | .pair a b,.inr (fs,n,off)=> ∃f,fs[n]? =some f∧f.offset=off∧cL P a (.inl f.type)∧cL P b (.inr (fs,n+1,off+a.size))
 |_,.inr _=>False
def dY(P:Program)(τ:Ty)(t:TypeId):Prop:=cL P τ (.inl t)
theorem dY.base{P:Program}{τ:Ty}{t:TypeId}(h:dY P τ t):w8 P τ t:=by
 unfold dY at h;cases τ<;>simp only[cL]at h<;>exact h.1
theorem dY.int{P:Program}{k:IntKind}{t:TypeId}(h:dY P (.int k) t):P.underlying t=some (.int k):=by simp only[dY,cL]at h;exact h.2
theorem dY.bool{P:Program}{t:TypeId}(h:dY P .bool t):P.underlying t=some .bool:=by simp only[dY,cL]at h;exact h.2
theorem dY.str{P:Program}{t:TypeId}(h:dY P .str t):P.underlying t=some .string:=by simp only[dY,cL]at h;exact h.2
theorem dY.slice{P:Program}{e:Ty}{t:TypeId}(h:dY P (.slice e) t): ∃e',P.underlying t=some (.slice e')∧dY P e e':=by simp only[dY,cL]at h;exact h.2
theorem dY.arr{P:Program}{n:Nat}{e:Ty}{t:TypeId}(h:dY P (.arr n e) t): ∃e',P.underlying t=some (.array n e')∧dY P e e':=by simp only[dY,cL]at h;exact h.2
theorem dY.isSome{P:Program}{τ:Ty}{t:TypeId}(h:dY P τ t):(P.underlying t).isSome=true:=by
 unfold dY at h
 cases τ<;>simp only[cL]at h
 ·simp[h.2]
 ·simp[h.2]
 ·simp[h.2]
 ·obtain⟨_,e',h',_⟩:=h;simp[h']
 ·obtain⟨_,e',h',_⟩:=h;simp[h']
 ·obtain⟨_,e',f,h',_⟩:=h;simp[h']
 ·obtain⟨_,e',h',_⟩:=h;simp[h']
inductive rq:(τ:Ty)→τ.den→Nat→(υ:Ty)→υ.den→Nat→Prop where
 |here {a b:Ty} (x:(Ty.pair a b).den):rq (.pair a b) x 0 a x.1 0
 |there {a b:Ty} (x:(Ty.pair a b).den) {n:Nat} {υ:Ty} {y:υ.den} {o:Nat} (h:rq b x.2 n υ y o):rq (.pair a b) x (n+1) υ y (a.size+o)
theorem gG{α:Type}{r:α}: ∀{τ:Ty} {x:τ.den} {n:Nat} {k:(υ:Ty)→υ.den→Option α},ll τ x n k=some r→ ∃υ y o,rq τ x n υ y o∧k υ y=some r
 | .pair a b,x,0,k,h=>⟨a,x.1,0,.here x,h⟩
 | .pair a b,x,n+1,k,h=>by
  obtain⟨υ,y,o,hf,hk⟩:=gG (τ:=b) (x:=x.2) (n:=n) (k:=k) h
  exact⟨υ,y,_,.there x hf,hk⟩
 | .int _,_,_,_,h| .bool,_,_,_,h| .str,_,_,_,h| .slice _,_,_,_,h| .unit,_,_,_,h| .arr _ _,_,_,_,h=>by simp[ll]at h
theorem rq.bound{τ:Ty}{x:τ.den}{n:Nat}{υ:Ty}{y:υ.den}{o:Nat}(h:rq τ x n υ y o):o+υ.size≤τ.size:=by
 induction h with
 |here x=>simp[Ty.size]
 |there x h ih=>simp only[Ty.size];omega
theorem rq.rd{w:World}{M:Nat→Prop}{τ:Ty}{x:τ.den}{n:Nat}{υ:Ty}{y:υ.den}{o:Nat}(h:rq τ x n υ y o):
  ∀{cs:List Value},Rd w M τ cs x→Rd w M υ ((cs.drop o).take υ.size) y:=by
 induction h with
 |here x=>
  intro cs hr
  simp only[Rd]at hr
  obtain⟨c1,c2,rfl,h1,_⟩:=hr
  rw[cW,mR h1.length];exact h1
 |there x h ih=>
  intro cs hr
  simp only[Rd]at hr
  obtain⟨c1,c2,rfl,h1,h2⟩:=hr
  rw[←dE,gp h1.length]
  exact ih h2
theorem cL.dw{P:Program}{τ:Ty}{x:τ.den}{m:Nat}{υ:Ty}{y:υ.den}{o:Nat}(h:rq τ x m υ y o):
  ∀{fs:Array Field} {n off:Nat},cL P τ (.inr (fs,n,off))→ ∃f,fs[n+m]? =some f∧f.offset=off+o∧dY P υ f.type:=by
 induction h with
 |here x=>
  intro fs n off hl
  simp only[cL]at hl
  obtain⟨f,hf,ho,ha,_⟩:=hl
  exact⟨f,hf,by simpa using ho,ha⟩
 |there x h ih=>
  intro fs n off hl
  simp only[cL]at hl
  obtain⟨f,hf,ho,_,hb⟩:=hl
  obtain⟨f',n9,JO,vr⟩:=ih hb
  exact⟨f',by rw[←n9];congr 1;omega,ω,vr⟩
theorem dY.dw{P:Program}{τ:Ty}{t:TypeId}{x:τ.den}{m:Nat}{υ:Ty}{y:υ.den}{o:Nat}(hl:dY P τ t)(h:rq τ x m υ y o):
  ∃fs f,P.underlying t=some (.struct fs)∧fs[m]? =some f∧f.offset=o∧dY P υ f.type:=by
 unfold dY at hl
 cases h with
 |here x=>
  simp only[cL]at hl
  obtain⟨_,fs,f,hu,hf,ho,ha,_⟩:=hl
  exact⟨fs,f,hu,hf,ho,ha⟩
 |there x h=>
  simp only[cL]at hl
  obtain⟨_,fs,f,hu,hf,ho,_,hb⟩:=hl
  obtain⟨f',n9,JO,vr⟩:=cL.dw h hb
  exact⟨fs,f',hu,by rw[←n9];congr 1;omega,ω,vr⟩
inductive w9:List Step→(τ:Ty)→τ.den→(υ:Ty)→υ.den→Nat→Prop where
 |nil {τ:Ty} (x:τ.den):w9 [] τ x τ x 0
 |dw {p:List Step} {τ υ σ:Ty} {x:τ.den} {n o:Nat} {y:υ.den} {z:σ.den} {q:Nat} (h:rq τ x n υ y o) (r:w9 p υ y σ z q):w9 (.dw n::p) τ x σ z (o+q)
 |idx {p:List Step} {n:Nat} {e σ:Ty} {x:(Ty.arr n e).den} {i:Nat} {z:σ.den} {q:Nat} (r:w9 p e (γ x i e.zero) σ z q):w9 (.idx i::p) (.arr n e) x σ z (i*e.size+q)
theorem ed{α:Type}{r:α}: ∀{p:List Step} {τ:Ty} {x:τ.den} {k:(υ:Ty)→υ.den→Option α},pz p τ x k=some r→ ∃υ y o,w9 p τ x υ y o∧k υ y=some r
 |[],τ,x,k,h=>⟨τ,x,0,.nil x,h⟩
 | .dw n::p,τ,x,k,h=>by
  obtain⟨υ,y,o,hf,h'⟩:=gG (h:ll τ x n _=some r)
  obtain⟨σ,z,q,hp,hk⟩:=ed h'
  exact⟨σ,z,_,.dw hf hp,hk⟩
 | .idx i::p,τ,x,k,h=>by
  cases τ with
  |arr n e=>
   obtain⟨σ,z,q,hp,hk⟩:=ed (p:=p) (τ:=e) (x:=γ x i e.zero) (k:=k) h
   exact⟨σ,z,_,.idx hp,hk⟩
  |_=>simp[pz,JL]at h
def jr:Ty→Nat→Ty
 | .pair a b,n=>match n with|0=>a|n+1=>jr b n
 |τ,_=>τ
def cH:Ty→Nat→Nat
 | .pair a b,n=>match n with|0=>0|n+1=>a.size+cH b n
 |_,_=>0
def JP:Ty→Ty
 | .arr _ e=>e
 |τ=>τ
def vE:List Step→Ty→Ty
 |[],τ=>τ
 | .dw n::p,τ=>vE p (jr τ n)
 | .idx _::p,τ=>vE p (JP τ)
def aO:List Step→Ty→Nat
 |[],_=>0
 | .dw n::p,τ=>cH τ n+aO p (jr τ n)
 | .idx i::p,τ=>i*(JP τ).size+aO p (JP τ)
def oa:List Step→Ty→Prop
 |[],_=>True
 | .dw n::p,τ=>oa p (jr τ n)
 | .idx i::p,τ=>(∃n e,τ= .arr n e∧i<n)∧oa p (JP τ)
theorem rq.eq{τ:Ty}{x:τ.den}{n:Nat}{υ:Ty}{y:υ.den}{o:Nat}(h:rq τ x n υ y o):υ=jr τ n∧o=cH τ n:=by
 induction h with
 |here x=>exact⟨rfl,rfl⟩
 |there x h ih=>obtain⟨rfl,rfl⟩:=ih;exact⟨rfl,rfl⟩
theorem w9.eq{p:List Step}{τ:Ty}{x:τ.den}{υ:Ty}{y:υ.den}{o:Nat}(h:w9 p τ x υ y o):υ=vE p τ∧o=aO p τ:=by
 induction h with
 |nil x=>exact⟨rfl,rfl⟩
 |dw h r ih=>
  obtain⟨h1,h2⟩:=h.eq
  obtain⟨h3,h4⟩:=ih
  subst h1 h2 h3 h4
  exact⟨rfl,rfl⟩
 |idx r ih=>
  obtain⟨h3,h4⟩:=ih
  subst h3 h4
  exact⟨rfl,rfl⟩
theorem JQ(p q:List Step): ∀τ,vE (p++q) τ=vE q (vE p τ):=by
 induction p with
 |nil=>intro τ;rfl
 |cons s p ih=>intro τ;cases s<;>simp[vE,ih]
theorem jG(p q:List Step): ∀τ,aO (p++q) τ=aO p τ+aO q (vE p τ):=by
 induction p with
 |nil=>intro τ;simp[aO,vE]
 |cons s p ih=>intro τ;cases s<;>simp[aO,vE,ih,gB]
theorem jH(p q:List Step): ∀τ,oa (p++q) τ↔oa p τ∧oa q (vE p τ):=by
 induction p with
 |nil=>intro τ;simp[oa,vE]
 |cons s p ih=>intro τ;cases s<;>simp[oa,vE,ih,and_assoc]
theorem eF{α:Type}(l:List α)(i:Nat)(d:α)(h:i<l.length):l.getD i d=l[i]:=by simp[γ,a6 h]
theorem pC{α:Type}(n:Nat): ∀(l:List (List α)) (i:Nat) (h:i<l.length),(∀j (hj:j<l.length),l[j].length=n)→(l.flatten.drop (i*n)).take n=l[i]
 |a::l,0,_,hn=>by
  have:=hn 0 (by simp)
  simp only[oZ]at this
  simp[←this]
 |a::l,i+1,h,hn=>by
  have h0:=hn 0 (by simp)
  simp only[oZ]at h0
  rw[o8,bO,ea,Nat.add_comm (i*n) n,←dE,gp h0]
  exact pC n l i (by simpa using h) (λj hj=>hn (j+1) (by simp;omega))
theorem Rd.idx{w:World}{M:Nat→Prop}{n:Nat}{e:Ty}{cs:List Value}{x:(Ty.arr n e).den}(h:Rd w M (.arr n e) cs x){i:Nat}(hi:i<n):
  Rd w M e ((cs.drop (i*e.size)).take e.size) (γ x i e.zero):=by
 simp only[Rd]at h
 obtain⟨hn,Ci,hc,rfl,hr⟩:=h
 rw[pC e.size Ci i ω (λj hj=>(hr j ω hj).length),eF x i e.zero ω]
 exact hr i ω ω
theorem w9.bound{p:List Step}{τ:Ty}{x:τ.den}{υ:Ty}{y:υ.den}{o:Nat}(h:w9 p τ x υ y o):oa p τ→o+υ.size≤τ.size:=by
 induction h with
 |nil x=>intro _;simp
 |dw h r ih=>
  intro hi
  obtain⟨h1,h2⟩:=h.eq
  subst h1
  have:=ih hi
  have:=h.bound
  omega
 | @idx p n e σ x i z q r ih=>
  intro hi
  obtain⟨⟨n',e',he,gu⟩,kk⟩:=hi
  cases he
  have:=ih kk
  have h2:(i+1)*e.size≤n*e.size:=dD _ gu
  rw[bO]at h2
  simp only[Ty.size]
  omega
theorem w9.rd{w:World}{M:Nat→Prop}{p:List Step}{τ:Ty}{x:τ.den}{υ:Ty}{y:υ.den}{o:Nat}(h:w9 p τ x υ y o):
  oa p τ→ ∀{cs:List Value},Rd w M τ cs x→Rd w M υ ((cs.drop o).take υ.size) y:=by
 induction h with
 |nil x=>intro _ cs hr;rw[cW,eA (by rw[hr.length];exact aB _)];exact hr
 |dw h r ih=>
  intro hi cs hr
  obtain⟨h1,h2⟩:=h.eq
  subst h1
  have:=ih hi (h.rd hr)
  have hb:=w9.bound r hi
  rw[iJ,dE,iK,c5 ω]at this
  exact this
 | @idx p n e σ x i z q r ih=>
  intro hi cs hr
  obtain⟨⟨n',e',he,gu⟩,kk⟩:=hi
  cases he
  have:=ih kk (hr.idx gu)
  have hb:=w9.bound r kk
  rw[iJ,dE,iK,c5 ω]at this
  exact this
def bG{α:Type}(cs:List α)(o:Nat)(new:List α):List α:=cs.take o++new++cs.drop (o+new.length)
theorem pD{α:Type}{a b:List α}{o:Nat}{new:List α}(h:o+new.length≤a.length):bG (a++b) o new=bG a o new++b:=by
 unfold bG
 rw[oR ω,oS ω]
 simp only[bq]
theorem nL{α:Type}{a b:List α}{o:Nat}{new:List α}:bG (a++b) (a.length+o) new=a++bG b o new:=by
 unfold bG
 rw[List.take_append,eA ω,oX,gB,List.drop_append,fa ω,oX]
 simp
theorem bD{α:Type}{a:List α}{o:Nat}{new:List α}(h:o+new.length≤a.length):(bG a o new).length=a.length:=by
 unfold bG;simp;omega
theorem sN{α:Type}{a:List α}{o i n:Nat}{new:List α}(h:i+n≤o∨o+new.length≤i)(hl:o+new.length≤a.length):((bG a o new).drop i).take n=(a.drop i).take n:=by
 apply mP
 intro j
 simp only[ff,fg]
 split
 ·rename_i hj
  unfold bG
  rcases h with h|h
  ·rw[bq,ic (by simp;omega),ff,af ω]
  ·rw[ib (by simp;omega)]
   simp only[aQ,aT,c5 (show o≤a.length by omega),fg]
   congr 1;omega
 ·rfl
theorem JR{α:Type}{a:List α}{o:Nat}{new:List α}(hl:o+new.length≤a.length):((bG a o new).drop o).take new.length=new:=by
 unfold bG
 rw[bq,gp (by simp;omega),mR rfl]
theorem nc{α:Type}{l:List α}{o:Nat}{u:α}(h:l[o]? =some u):bG l o [u]=l:=by
 obtain⟨cy,rfl⟩:=jz.1 h
 unfold bG
 simp
theorem nM{α:Type}{l:List α}{o:Nat}{u:α}(h:o<l.length):(bG l o [u])[o]? =some u:=by
 unfold bG
 rw[bq,ib (by simp;omega)]
 simp[c5 (Nat.le_of_lt h)]
theorem ef{τ:Ty}: ∀{n:Nat} {a:Ty},n4 τ n=some a→ ∀x:τ.den,∃y o,rq τ x n a y o:=by
 induction τ with
 |pair a b _ DZ=>
  intro n c h x
  cases n with
  |zero=>cases h;exact⟨_,_,.here x⟩
  |succ n=>
   obtain⟨y,o,hf⟩:=DZ (n:=n) (a:=c) h x.2
   exact⟨y,_,.there x hf⟩
 |_=>intro n c h;simp[n4]at h
theorem kD: ∀{p:List Step} {τ υ:Ty},cj p τ υ=true→ ∀x:τ.den,∃y o,w9 p τ x υ y o
 |[],τ,υ,h,x=>by
  have h:=bs h
  subst h
  exact⟨x,0,.nil x⟩
 | .dw n::p,τ,υ,h,x=>by
  unfold cj at h
  split at h
  ·rename_i a ha
   obtain⟨y,o,hf⟩:=ef ha x
   obtain⟨z,q,hp⟩:=kD h y
   exact⟨z,_,.dw hf hp⟩
  ·cases h
 | .idx _::_,_,_,h,_=>by simp[cj]at h
theorem eG: ∀{p:List Step} {τ υ:Ty},cj p τ υ=true→oa p τ∧vE p τ=υ
 |[],τ,υ,h=>⟨trivial,bs h⟩
 | .dw n::p,τ,υ,h=>by
  have h0:=h
  unfold cj at h
  split at h
  ·rename_i a ha
   obtain⟨y,o,hf⟩:=ef ha τ.zero
   obtain⟨h1,h2⟩:=eG h
   have:=hf.eq.1
   subst this
   exact⟨h1,h2⟩
  ·cases h
 | .idx _::_,_,_,h=>by simp[cj]at h
theorem ox: ∀{p q:List Step},vA p q=true→p=q
 |[],[],_=>rfl
 | .dw a::p,.dw b::q,h=>by
  simp only[vA,aV]at h
  rw[bY h.1,ox h.2]
 |[],_::_,h| .dw _::_,[],h| .idx _::_,_,h| .dw _::_,.idx _::_,h=>by simp[vA]at h
theorem rq.apart{τ:Ty}{x:τ.den}{n:Nat}{υ:Ty}{y:υ.den}{o:Nat}(h:rq τ x n υ y o): ∀{x':τ.den} {n':Nat} {υ':Ty} {y':υ'.den} {o':Nat},rq τ x' n' υ' y' o'→n≠n'→o+υ.size≤o'∨o'+υ'.size≤o:=by
 induction h with
 |here x=>
  intro x' n' υ' y' o' h' dT
  cases h' with
  |here=>exact absurd rfl dT
  |there _ h'=>left;omega
 |there x h ih=>
  intro x' n' υ' y' o' h' dT
  cases h' with
  |here=>right;omega
  |there _ h'=>rcases ih h' (λe=>dT (by rw[e]))with h1|h1<;>omega
theorem w9.apart{p:List Step}{τ:Ty}{x:τ.den}{υ:Ty}{y:υ.den}{o:Nat}(h:w9 p τ x υ y o):oa p τ→ ∀{q:List Step} {e:Ty},cj q τ (.slice e)=true→n0 p q=false→aO q τ<o∨o+υ.size≤aO q τ:=by
 induction h with
 |nil x=>intro _ q e _ h;simp[n0]at h
 | @dw p τ υ σ x n o y z q hf r ih=>
  intro hi q' e hq hp
  obtain⟨h1,h2⟩:=hf.eq
  subst h1 h2
  cases q' with
  |nil=>
   have:=bs hq
   subst this
   cases hf
  |cons s q'=>
   cases s with
   |idx i=>simp[cj]at hq
   |dw m=>
    unfold cj at hq
    split at hq
    ·rename_i a ha
     obtain⟨y',o',n9⟩:=ef ha x
     obtain⟨h3,h4⟩:=n9.eq
     subst h3 h4
     have hb:=r.bound hi
     obtain⟨h5,h6⟩:=eG hq
     obtain⟨z',o2,xY⟩:=kD hq y'
     have bA:=xY.bound h5
     have UT:=xY.eq.2
     subst UT
     simp only[aO]
     by_cases SU:n=m
     ·subst SU
      have xa:n0 p q'=false:=by
       simp only[n0,Bool.and_eq_false_iff]at hp
       rcases hp with hp|hp
       ·rw[gC]at hp;cases hp
       ·exact hp
      rcases ih hi hq xa with h7|h7<;>omega
     ·rcases hf.apart n9 SU with h7|h7
      ·right;omega
      ·left
       have:1≤(Ty.slice e).size:=aB _
       omega
    ·cases hq
 | @idx p n e' σ x i z q r ih=>
  intro hi q' e hq hp
  cases q' with
  |nil=>have:=bs hq;cases this
  |cons s q'=>
   cases s with
   |idx i=>simp[cj]at hq
   |dw m=>simp[cj,n4]at hq
def bK:Value→Option Nat
 | .pointer (some a)=>some a.block
 | .slice (some a) _ cap=>if cap=0 then none else some a.block
 |_=>none
def ar.mut:ar→Prop
 | .obj _ _| .own _ _| .cQ _ _ _ _=>True
 |_=>False
def ER(w:World)(M:Nat→Prop)(v:Value):ar→Prop
 | .obj τ x=> ∃b cs t,v= .pointer (some ⟨b,0,none⟩)∧w.heap[b]? =some (.cells cs t (0,0))∧M b∧Rd w M τ cs.toList x
 | .cQ τ x p _=> ∃b cs t dL u,v= .pointer (some ⟨b,0,none⟩)∧w.heap[b]? =some (.cells cs t (0,0))∧M b∧Rd w M τ dL x∧cs.toList=bG dL (aO p τ) [u]∧u.oneCell'=true∧ ∃e,cj p τ (.slice e)=true
 | .own e l=>(l=[]∧ ∃a,v= .slice a 0 0)∨
  ∃b cs t cap,v= .slice (some ⟨b,0,none⟩) l.length cap∧w.heap[b]? =some (.cells cs t (0,0))∧M b∧0<cap∧l.length≤cap∧cap≤maxLen∧cs.size=cap*e.size∧
   ∀i (h:i<l.length),Rd w M e ((cs.toList.drop (i*e.size)).take e.size) l[i]
 | .gr e l=>Rd w M (.slice e) [v] l∧((l=[]∧ ∃a n c,v= .slice a n c)∨ ∃b n c,v= .slice (some ⟨b,0,none⟩) n c)
 | .cq _ _ _=>True
 | .gone=>True
def AR(v:Value)(p:List Step)(u:Value):ar→Prop
 | .obj τ _| .cQ τ _ _ _=>oa p τ∧ ∃b,v= .pointer (some ⟨b,0,none⟩)∧u= .pointer (some ⟨b,aO p τ,none⟩)
 | .own e l| .gr e l=> ∃i q,p= .idx i::q∧i<l.length∧oa q e∧ ∃b n c,v= .slice (some ⟨b,0,none⟩) n c∧u= .pointer (some ⟨b,i*e.size+aO q e,none⟩)
 | .cq _ l _=> ∃i,p=[.idx i]∧i<l.length∧ ∃b n c,v= .slice (some ⟨b,0,none⟩) n c∧u= .pointer (some ⟨b,i,none⟩)
 | .gone=> ∃a,u= .pointer (some a)
def lx(τ:Ty)(n:Nat):Bool:=match n4 τ n with
 |some (.slice _)=>true
 |_=>false
mutual
def VR(w:World)(M:Nat→Prop)(H:Nat→Option ar)(ν:Nat→Value):ax→Value→Prop
 | .any,_=>True
 | .DW,v=>v=undef
 | .val τ x,v=>V w M τ v x
 | .w4 τ x n,v=>V w M τ v x∧ ∃cs a,v= .agg cs∧cs.toList[cH τ n]? =some (.slice a 0 0)
 | .sub id e lo,v=>H id≠none∧ ∃a n cap,ν id= .slice a n cap∧v= .slice (if cap=lo then a else a.map (·.add (lo*e.size))) (n-lo) (cap-lo)
 | .vB τ x n j,v=> ∃cs dL,v= .agg cs∧Rd w M τ dL x∧cs.toList=bG dL (cH τ n) [ν j]∧H j≠none∧lx τ n=true
 | .emp,v=> ∃a,v= .slice a 0 0
 | .ref id,v=>H id≠none∧v=ν id
 | .dg id p,v=> ∃e,H id=some e∧AR (ν id) p v e
 | .iP τ x,v=> ∃b off,v= .pointer (some ⟨b,off,none⟩)∧b<w.heap.size∧ ¬M b∧ ∃cs,At w b off cs∧Rd w M τ cs x
 | .Mp vs,v=> ∃us:List Value,v= .tuple us.toArray∧dF w M H ν vs us
 | .yC f iQ,v=> ∃cs:List Value,v= .func (.func f) #[] cs.toArray∧dF w M H ν iQ cs
def dF(w:World)(M:Nat→Prop)(H:Nat→Option ar)(ν:Nat→Value):List ax→List Value→Prop
 |[],[]=>True
 |a::as,v::vs=>VR w M H ν a v∧dF w M H ν as vs
 |_,_=>False
end
def ar.eg:ar→ar→Prop
 | .obj τ _,.obj υ _| .obj τ _,.cQ υ _ _ _| .cQ τ _ _ _,.obj υ _| .cQ τ _ _ _,.cQ υ _ _ _=>τ=υ
 | .own e l,.own f k| .own e l,.gr f k| .gr e l,.gr f k=>e=f∧l.length=k.length
 | .cq _ l _,.cq _ k _=>l.length=k.length
 |_,.gone=>True
 |_,_=>False
structure dM(H:Nat→Option ar)(ν:Nat→Value)(H':Nat→Option ar)(ν':Nat→Value):Prop where
 dd: ∀i e,H i=some e→ ∃e',H' i=some e'∧e.eg e'
 head: ∀i,H i≠none→ν' i=ν i
theorem AR.ptr{v:Value}{p:List Step}{u:Value}{e:ar}(h:AR v p u e): ∃a,u= .pointer (some a):=by
 cases e<;>simp only[AR]at h
 ·obtain⟨_,b,_,h⟩:=h;exact⟨_,h⟩
 ·obtain⟨_,b,_,h⟩:=h;exact⟨_,h⟩
 ·obtain⟨i,q,_,_,_,b,n,c,_,h⟩:=h;exact⟨_,h⟩
 ·obtain⟨i,q,_,_,_,b,n,c,_,h⟩:=h;exact⟨_,h⟩
 ·obtain⟨i,_,_,b,n,c,_,h⟩:=h;exact⟨_,h⟩
 ·exact h
theorem AR.eg{v:Value}{p:List Step}{u:Value}{e e':ar}(h:AR v p u e)(l:e.eg e'):AR v p u e':=by
 have hp:=h.ptr
 cases e<;>cases e'<;>simp only[ar.eg]at l<;>simp only[AR]at h ⊢ <;>try exact hp
 ·subst l;exact h
 ·subst l;exact h
 ·subst l;exact h
 ·subst l;exact h
 ·obtain⟨rfl,hl⟩:=l;obtain⟨i,q,hp,hi,r⟩:=h;exact⟨i,q,hp,ω,r⟩
 ·obtain⟨rfl,hl⟩:=l;obtain⟨i,q,hp,hi,r⟩:=h;exact⟨i,q,hp,ω,r⟩
 ·obtain⟨rfl,hl⟩:=l;obtain⟨i,q,hp,hi,r⟩:=h;exact⟨i,q,hp,ω,r⟩
 ·obtain⟨i,hp,hi,r⟩:=h;exact⟨i,hp,ω,r⟩
theorem ar.eg.refl(e:ar):e.eg e:=by cases e<;>simp[ar.eg]
theorem dM.refl(H:Nat→Option ar)(ν:Nat→Value):dM H ν H ν:=⟨λ_ e h=>⟨e,h,.refl e⟩,λ_ _=>rfl⟩
mutual
theorem VR.aK{w w':World}{M M':Nat→Prop}{H H':Nat→Option ar}{ν ν':Nat→Value}(k:bJ w M w' M')(g:dM H ν H' ν'):
  ∀{a:ax} {v:Value},VR w M H ν a v→VR w' M' H' ν' a v
 | .any,_,_=>by simp[VR]
 | .DW,_,h=>by simpa [VR]using h
 | .val τ x,v,h=>by simp only[VR]at h ⊢;exact h.aK k
 | .w4 τ x n,v,h=>by simp only[VR]at h ⊢;exact⟨h.1.aK k,h.2⟩
 | .sub id e lo,v,h=>by
  simp only[VR]at h ⊢
  obtain⟨h1,h2⟩:=h
  obtain⟨e,he⟩:=oT.1 h1
  obtain⟨e',js,_⟩:=g.dd id e he
  exact⟨by simp[js],by rw[g.head id h1];exact h2⟩
 | .vB τ x n j,v,h=>by
  simp only[VR]at h ⊢
  obtain⟨cs,dL,h1,h2,h3,h4,h5⟩:=h
  obtain⟨e,he⟩:=oT.1 h4
  obtain⟨e',js,_⟩:=g.dd j e he
  exact⟨cs,dL,h1,h2.aK k,by rw[g.head j h4];exact h3,by simp[js],h5⟩
 | .emp,_,h=>by simpa [VR]using h
 | .ref id,_,h=>by
  simp only[VR]at h ⊢
  obtain⟨h1,h2⟩:=h
  obtain⟨e,he⟩:=oT.1 h1
  obtain⟨e',js,_⟩:=g.dd id e he
  exact⟨by simp[js],by rw[g.head id h1];exact h2⟩
 | .dg id p,_,h=>by
  simp only[VR]at h ⊢
  obtain⟨e,he,ha⟩:=h
  obtain⟨e',js,hl⟩:=g.dd id e he
  exact⟨e',js,by rw[g.head id (by simp[he])];exact ha.eg hl⟩
 | .iP τ x,_,h=>by
  simp only[VR]at h ⊢
  obtain⟨b,off,rfl,hb,hm,cs,ha,hr⟩:=h
  exact⟨b,off,rfl,fe hb k.size,λh'=>hm (k.less b hb h'),cs,ha.aK (k.block b hb hm),hr.aK k⟩
 | .Mp vs,_,h=>by
  simp only[VR]at h ⊢
  obtain⟨us,rfl,h⟩:=h
  exact⟨us,rfl,dF.aK k g h⟩
 | .yC f iQ,_,h=>by
  simp only[VR]at h ⊢
  obtain⟨us,rfl,h⟩:=h
  exact⟨us,rfl,dF.aK k g h⟩
theorem dF.aK{w w':World}{M M':Nat→Prop}{H H':Nat→Option ar}{ν ν':Nat→Value}(k:bJ w M w' M')(g:dM H ν H' ν'):
  ∀{as:List ax} {vs:List Value},dF w M H ν as vs→dF w' M' H' ν' as vs
 |[],[],_=>by simp[dF]
 |a::as,v::vs,h=>by simp only[dF]at h ⊢;exact⟨VR.aK k g h.1,dF.aK k g h.2⟩
 |[],_::_,h=>by simp[dF]at h
 |_::_,[],h=>by simp[dF]at h
end
end VM
end
section
namespace VM
open Go
structure Ctx where
 B:Nat
 w0:World
 M0:Nat→Prop
 may:Nat→Prop
 arg:Nat→Value
structure Mem(c:Ctx)(H:Nat→Option ar)(w:World)(M:Nat→Prop)(ν:Nat→Value):Prop where
 dd: ∀i e,H i=some e→ER w M (ν i) e
 ob: ∀i j e e' b,i≠j→H i=some e→e.mut→H j=some e'→e'.mut→bK (ν i)=some b→bK (ν j)≠some b
 new: ∀i e b,H i=some e→e.mut→bK (ν i)=some b→c.B≤b∨c.may b
 n7: ∀i e l b,H i=some (.own e l)→bK (ν i)=some b→ ¬c.M0 b
 cQ: ∀i τ x p j,H i=some (.cQ τ x p j)→H j≠none∧ ∃b,ν i= .pointer (some ⟨b,0,none⟩)∧w.cell? ⟨b,aO p τ,none⟩=some (ν j)
 sub: ∀b,c.M0 b→M b
 oy: ∀b,M b→b<w.heap.size
 frame: ∀b,b<c.B→ ¬c.may b→w.heap[b]? =c.w0.heap[b]?
 size:c.B≤w.heap.size
 gf:(∀b,c.M0 b→b<c.B)∧ ∀b,c.may b→ ¬c.M0 b
 os:w.os=c.w0.os
 tape:w.tape=c.w0.tape
 output:w.output=c.w0.output
structure Tr(c:Ctx)(H:Nat→Option ar)(w:World)(M:Nat→Prop)(ν:Nat→Value)(H':Nat→Option ar)(w':World)(M':Nat→Prop)(ν':Nat→Value):Prop where
 mem:Mem c H' w' M' ν'
 aK:bJ w M w' M'
 goes:dM H ν H' ν'
theorem ar.eg.trans{a b d:ar}(h:a.eg b)(k:b.eg d):a.eg d:=by
 cases a<;>cases b<;>cases d<;>simp only[ar.eg]at h k ⊢ <;>first
  |exact h.trans k
  |exact⟨h.1.trans k.1,h.2.trans k.2⟩
theorem dM.trans{H H' IG:Nat→Option ar}{ν ν' ν'':Nat→Value}(h:dM H ν H' ν')(k:dM H' ν' IG ν''):dM H ν IG ν'':=by
 refine⟨λi e he=> ?_,λi hi=> ?_⟩
 ·obtain⟨e',js,l⟩:=h.dd i e he
  obtain⟨UU,QK,l'⟩:=k.dd i e' js
  exact⟨UU,QK,l.trans l'⟩
 ·obtain⟨e,he⟩:=oT.1 hi
  obtain⟨e',js,_⟩:=h.dd i e he
  rw[k.head i (by simp[js]),h.head i hi]
theorem Tr.trans{c:Ctx}{H H' IG:Nat→Option ar}{w w' MX:World}{M M' wh:Nat→Prop}{ν ν' ν'':Nat→Value}
  (h:Tr c H w M ν H' w' M' ν') (k:Tr c H' w' M' ν' IG MX wh ν''):Tr c H w M ν IG MX wh ν'':=
 ⟨k.mem,h.aK.trans k.aK,h.goes.trans k.goes⟩
theorem Tr.refl{c:Ctx}{H:Nat→Option ar}{w:World}{M:Nat→Prop}{ν:Nat→Value}(h:Mem c H w M ν):Tr c H w M ν H w M ν:=
 ⟨h,.refl w M,.refl H ν⟩
theorem aa(H:Nat→Option ar)(d:Nat)(v:Option ar):au H d v d=v:=by simp[au]
theorem ae(H:Nat→Option ar){d i:Nat}(v:Option ar)(h:i≠d):au H d v i=H i:=by
 have:Nat.beq i d=false:=by rw[←gm,mW];exact h
 simp[au,this]
theorem Aw(ups:dh): ∀σ:St,(σ.mY ups).H=aN σ.H ups:=by
 induction ups with
 |nil=>intro σ;rfl
 |cons u r ih=>intro σ;exact ih _
theorem Ax(ups:dh): ∀σ:St,(σ.mY ups).T=σ.T:=by
 induction ups with
 |nil=>intro σ;rfl
 |cons u r ih=>intro σ;exact ih _
theorem bT(a b:dh): ∀H,aN H (a++b)=aN (aN H a) b:=by
 induction a with
 |nil=>intro H;rfl
 |cons u r ih=>intro H;exact ih _
theorem nN{H:Nat→Option ar}{id j:Nat}{v:ar}(h:H j≠none):au H id (some v) j≠none:=by
 by_cases hj:j=id
 ·subst hj;rw[aa];simp
 ·rw[ae _ _ hj];exact h
theorem xb{H:Nat→Option ar}{w:World}{ν:Nat→Value}(h: ∀i τ x p j,H i=some (.cQ τ x p j)→H j≠none∧ ∃b,ν i= .pointer (some ⟨b,0,none⟩)∧w.cell? ⟨b,aO p τ,none⟩=some (ν j)){id:Nat}{v:ar}(hv: ∀τ x p j,v≠ .cQ τ x p j):
  ∀i τ x p j,au H id (some v) i=some (.cQ τ x p j)→au H id (some v) j≠none∧ ∃b,ν i= .pointer (some ⟨b,0,none⟩)∧w.cell? ⟨b,aO p τ,none⟩=some (ν j):=by
 intro i τ x p j hi
 by_cases ay:i=id
 ·subst ay;rw[aa]at hi;cases hi;exact absurd rfl (hv _ _ _ _)
 ·rw[ae _ _ ay]at hi
  obtain⟨h1,h2⟩:=h i τ x p j hi
  exact⟨nN h1,h2⟩
theorem Tr.gone{c:Ctx}{H:Nat→Option ar}{w:World}{M:Nat→Prop}{ν:Nat→Value}(h:Mem c H w M ν)(id:Nat):Tr c H w M ν (au H id (some .gone)) w M ν:=by
 refine⟨⟨λi e he=> ?_,λi j e e' b gH hi hm hj dz=> ?_,λi e b hi hm=> ?_,λi e l b hi=> ?_,xb h.cQ (λ_ _ _ _=>by simp),h.sub,h.oy,h.frame,h.size,h.gf,h.os,h.tape,h.output⟩,.refl w M,⟨λi e he=> ?_,λ_ _=>rfl⟩⟩
 ·by_cases hid:i=id
  ·subst hid;rw[aa]at he;cases he;simp[ER]
  ·rw[ae _ _ hid]at he;exact h.dd i e he
 ·by_cases hid:i=id
  ·subst hid;rw[aa]at hi;cases hi;simp[ar.mut]at hm
  ·by_cases SV:j=id
   ·subst SV;rw[aa]at hj;cases hj;simp[ar.mut]at dz
   ·rw[ae _ _ hid]at hi;rw[ae _ _ SV]at hj;exact h.ob i j e e' b gH hi hm hj dz
 ·by_cases hid:i=id
  ·subst hid;rw[aa]at hi;cases hi;simp[ar.mut]at hm
  ·rw[ae _ _ hid]at hi;exact h.new i e b hi hm
 ·by_cases hid:i=id
  ·subst hid;rw[aa]at hi;cases hi
  ·rw[ae _ _ hid]at hi;exact h.n7 i e l b hi
 ·by_cases hid:i=id
  ·subst hid;exact⟨.gone,aa _ _ _,by cases e<;>simp[ar.eg]⟩
  ·exact⟨e,by rw[ae _ _ hid];exact he,.refl e⟩
theorem cell_of{w:World}{b:Nat}{cs:Array Value}{t:TypeId}{fz:Nat×Nat}(h:w.heap[b]? =some (.cells cs t fz))(o:Nat):w.cell? ⟨b,o,none⟩=cs[o]? :=by
 simp[World.cell?,h]
theorem At.of_block{w:World}{b:Nat}{cs:Array Value}{t:TypeId}{fz:Nat×Nat}(h:w.heap[b]? =some (.cells cs t fz))(o n:Nat):
  At w b o ((cs.toList.drop o).take n):=by
 intro j v hj
 rw[cell_of h]
 rw[ff]at hj
 split at hj
 ·rw[fg]at hj;simpa using hj
 ·cases hj
theorem lt_of_block{w:World}{b:Nat}{o:Obj}(h:w.heap[b]? =some o):b<w.heap.size:=(ez.1 h).1
theorem ER.aK{w w':World}{M M':Nat→Prop}{v:Value}(k:bJ w M w' M'): ∀{e:ar},
  (e.mut→ ∀b,bK v=some b→w'.heap[b]? =w.heap[b]? ∧M' b)→ER w M v e→ER w' M' v e
 | .obj τ x,hm,h=>by
  simp only[ER]at h ⊢
  obtain⟨b,cs,t,rfl,hb,hM,hr⟩:=h
  obtain⟨h1,h2⟩:=hm trivial b rfl
  exact⟨b,cs,t,rfl,h1.trans hb,h2,hr.aK k⟩
 | .cQ τ x p j,hm,h=>by
  simp only[ER]at h ⊢
  obtain⟨b,cs,t,dL,u,rfl,hb,hM,hr,h3⟩:=h
  obtain⟨h1,h2⟩:=hm trivial b rfl
  exact⟨b,cs,t,dL,u,rfl,h1.trans hb,h2,hr.aK k,h3⟩
 | .own e l,hm,h=>by
  simp only[ER]at h ⊢
  rcases h with h|⟨b,cs,t,cap,rfl,hb,hM,hc,hl,sO,hs,hr⟩
  ·exact .inl h
  ·obtain⟨h1,h2⟩:=hm trivial b (by simp[bK];omega)
   exact .inr ⟨b,cs,t,cap,rfl,h1.trans hb,h2,hc,hl,sO,hs,λi hi=>(hr i hi).aK k⟩
 | .gr e l,_,h=>by
  simp only[ER]at h ⊢
  exact⟨h.1.aK k,h.2⟩
 | .cq _ _ _,_,_| .gone,_,_=>by simp[ER]
theorem ER.jt{w:World}{M:Nat→Prop}{v:Value}{e:ar}(h:ER w M v e)(hm:e.mut){b:Nat}(hb:bK v=some b):M b:=by
 cases e with
 |obj τ x=>simp only[ER]at h;obtain⟨b',cs,t,hv,bA,hM,_⟩:=h;rw[hv]at hb;simp only[bK,bZ]at hb;subst hb;exact hM
 |cQ τ x p j=>simp only[ER]at h;obtain⟨b',cs,t,_,_,hv,bA,hM,_⟩:=h;rw[hv]at hb;simp only[bK,bZ]at hb;subst hb;exact hM
 |own e1 l1=>
  simp only[ER]at h
  rcases h with⟨_,a,hv⟩|⟨b',cs,t,cap,hv,bA,hM,hc,_⟩
  ·rw[hv]at hb;cases a<;>simp[bK]at hb
  ·rw[hv]at hb;simp only[bK]at hb;split at hb
   ·cases hb
   ·simp only[bZ]at hb;subst hb;exact hM
 |gr _ _=>simp[ar.mut]at hm
 |cq _ _ _=>simp[ar.mut]at hm
 |gone=>simp[ar.mut]at hm
theorem Tr.freeze{c:Ctx}{H:Nat→Option ar}{w:World}{M:Nat→Prop}{ν:Nat→Value}(h:Mem c H w M ν){id:Nat}{e:Ty}{l:List e.den}(hid:H id=some (.own e l)):
  ∃M',Tr c H w M ν (au H id (some (.gr e l))) w M' ν∧V w M' (.slice e) (ν id) l∧ ∀b,M' b↔(M b∧bK (ν id)≠some b):=by
 have hk:bJ w M w (λb=>M b∧bK (ν id)≠some b):=⟨aB _,λ_ _ _=>rfl,λ_ _ h=>h.1⟩
 have he:=h.dd id _ hid
 have eJ:Rd w (λb=>M b∧bK (ν id)≠some b) (.slice e) [ν id] l:=by
  simp only[ER]at he
  simp only[Rd]
  rcases he with⟨rfl,a,hv⟩|⟨b,cs,t,cap,hv,hb,hM,hc,hl,sO,hs,hr⟩
  ·exact⟨a,0,by rw[hv];rfl,aB _,λi hi=>absurd hi (by simp)⟩
  ·refine⟨_,cap,by rw[hv],hl,λi hi=>⟨b,0,rfl,lt_of_block hb,λhm=>hm.2 (by rw[hv];simp[bK];omega),_,?_,(hr i hi).aK hk⟩⟩
   rw[cF]
   exact At.of_block hb _ _
 refine⟨λb=>M b∧bK (ν id)≠some b,⟨⟨λi e' hi=> ?_,λi j e1 e2 b gH hi hm hj dz=> ?_,λi e1 b hi hm=> ?_,λi e1 l1 b hi=> ?_,xb h.cQ (λ_ _ _ _=>by simp),λb hb=>⟨h.sub b hb,λhm=>h.n7 id e l b hid hm hb⟩,λb hb=>h.oy b hb.1,h.frame,h.size,h.gf,h.os,h.tape,h.output⟩,hk,⟨λi e' hi=> ?_,λ_ _=>rfl⟩⟩,?_,λ_=>Iff.rfl⟩
 ·by_cases ay:i=id
  ·subst ay;rw[aa]at hi;cases hi
   simp only[ER]
   refine⟨eJ,?_⟩
   simp only[ER]at he
   rcases he with⟨rfl,a,hv⟩|⟨b,cs,t,cap,hv,_⟩
   ·exact .inl ⟨rfl,a,0,0,hv⟩
   ·exact .inr ⟨b,_,cap,hv⟩
  ·rw[ae _ _ ay]at hi
   refine(h.dd i e' hi).aK hk (λhm b hb=>⟨rfl,?_,?_⟩)
   ·exact(h.dd i e' hi).jt hm hb
   ·exact h.ob i id e' (.own e l) b ay hi hm hid trivial hb
 ·by_cases ay:i=id
  ·subst ay;rw[aa]at hi;cases hi;simp[ar.mut]at hm
  ·by_cases rr:j=id
   ·subst rr;rw[aa]at hj;cases hj;simp[ar.mut]at dz
   ·rw[ae _ _ ay]at hi;rw[ae _ _ rr]at hj;exact h.ob i j e1 e2 b gH hi hm hj dz
 ·by_cases ay:i=id
  ·subst ay;rw[aa]at hi;cases hi;simp[ar.mut]at hm
  ·rw[ae _ _ ay]at hi;exact h.new i e1 b hi hm
 ·by_cases ay:i=id
  ·subst ay;rw[aa]at hi;cases hi
  ·rw[ae _ _ ay]at hi;exact h.n7 i e1 l1 b hi
 ·by_cases ay:i=id
  ·subst ay;rw[hid]at hi;cases hi;exact⟨_,aa _ _ _,rfl,rfl⟩
  ·exact⟨e',by rw[ae _ _ ay];exact hi,.refl e'⟩
 ·unfold V;rw[ag (by simp[Ty.isAgg])];exact eJ
theorem Tr.fix{c:Ctx}{H:Nat→Option ar}{w:World}{M:Nat→Prop}{ν:Nat→Value}(h:Mem c H w M ν){id:Nat}{τ:Ty}{x:τ.den}(hid:H id=some (.obj τ x)):
  ∃M' b,Tr c H w M ν (au H id (some .gone)) w M' ν∧ν id= .pointer (some ⟨b,0,none⟩)∧b<w.heap.size∧ ¬M' b∧ ∃cs,At w b 0 cs∧Rd w M' τ cs x:=by
 have he:=h.dd id _ hid
 simp only[ER]at he
 obtain⟨b0,cs,t,hv,hb,hM,hr⟩:=he
 have ru:bK (ν id)=some b0:=by rw[hv];rfl
 have hk:bJ w M w (λb=>M b∧b≠b0):=⟨aB _,λ_ _ _=>rfl,λ_ _ h=>h.1⟩
 have tF: ¬c.M0 b0:=λhm=>(h.new id _ b0 hid trivial ru).elim (λhB=>by have:=h.gf.1 b0 hm;omega) (λhB=>h.gf.2 b0 hB hm)
 refine⟨λb=>M b∧b≠b0,b0,⟨⟨λi e' hi=> ?_,λi j e1 e2 b gH hi hm hj dz=> ?_,λi e1 b hi hm=> ?_,λi e1 l1 b hi=> ?_,xb h.cQ (λ_ _ _ _=>by simp),λb bA=>⟨h.sub b bA,λe=>tF (e▸bA)⟩,λb bA=>h.oy b bA.1,h.frame,h.size,h.gf,h.os,h.tape,h.output⟩,hk,⟨λi e' hi=> ?_,λ_ _=>rfl⟩⟩,hv,lt_of_block hb,λhm=>hm.2 rfl,cs.toList,?_,hr.aK hk⟩
 ·by_cases ay:i=id
  ·subst ay;rw[aa]at hi;cases hi;simp[ER]
  ·rw[ae _ _ ay]at hi
   refine(h.dd i e' hi).aK hk (λhm b bA=>⟨rfl,?_,?_⟩)
   ·exact(h.dd i e' hi).jt hm bA
   ·intro e
    exact h.ob i id e' (.obj τ x) b ay hi hm hid trivial bA (by rw[ru,e])
 ·by_cases ay:i=id
  ·subst ay;rw[aa]at hi;cases hi;simp[ar.mut]at hm
  ·by_cases rr:j=id
   ·subst rr;rw[aa]at hj;cases hj;simp[ar.mut]at dz
   ·rw[ae _ _ ay]at hi;rw[ae _ _ rr]at hj;exact h.ob i j e1 e2 b gH hi hm hj dz
 ·by_cases ay:i=id
  ·subst ay;rw[aa]at hi;cases hi;simp[ar.mut]at hm
  ·rw[ae _ _ ay]at hi;exact h.new i e1 b hi hm
 ·by_cases ay:i=id
  ·subst ay;rw[aa]at hi;cases hi
  ·rw[ae _ _ ay]at hi;exact h.n7 i e1 l1 b hi
 ·by_cases ay:i=id
  ·subst ay;rw[hid]at hi;cases hi;exact⟨_,aa _ _ _,trivial⟩
  ·exact⟨e',by rw[ae _ _ ay];exact hi,.refl e'⟩
 ·have:=At.of_block hb 0 cs.toList.length
  rwa [cW,gn]at this
theorem pE(w:World)(o:Obj):(w.alloc o).heap[w.heap.size]? =some o:=by
 show(w.heap.push o)[w.heap.size]? =some o
 simp
theorem eH(w:World)(o:Obj){i:Nat}(h:i<w.heap.size):(w.alloc o).heap[i]? =w.heap[i]? :=by
 show(w.heap.push o)[i]? =w.heap[i]?
 rw[Array.getElem?_push,ag (Nat.ne_of_lt h)]
theorem size_alloc(w:World)(o:Obj):(w.alloc o).heap.size=w.heap.size+1:=by
 show(w.heap.push o).size=_
 simp
def updν(ν:Nat→Value)(d:Nat)(v:Value):Nat→Value:=λi=>if i=d then v else ν i
theorem fM{c:Ctx}{H:Nat→Option ar}{w w':World}{M:Nat→Prop}{ν ν':Nat→Value}(h:Mem c H w M ν){H':Nat→Option ar}
  (hν: ∀i,H i≠none→ν' i=ν i) (hn: ∀i,H i≠none→H' i≠none)
  (hi: ∀i τ x p j,H' i=some (.cQ τ x p j)→(H i=some (.cQ τ x p j)∧ ∀b,ν i= .pointer (some ⟨b,0,none⟩)→w'.heap[b]? =w.heap[b]?)∨(H' j≠none∧ ∃b,ν' i= .pointer (some ⟨b,0,none⟩)∧w'.cell? ⟨b,aO p τ,none⟩=some (ν' j))):
  ∀i τ x p j,H' i=some (.cQ τ x p j)→H' j≠none∧ ∃b,ν' i= .pointer (some ⟨b,0,none⟩)∧w'.cell? ⟨b,aO p τ,none⟩=some (ν' j):=by
 intro i τ x p j he
 rcases hi i τ x p j he with⟨h1,hb⟩|h1
 ·obtain⟨h2,b,h3,h4⟩:=h.cQ i τ x p j h1
  refine⟨hn j h2,b,by rw[hν i (by rw[h1];simp)];exact h3,?_⟩
  rw[hν j h2,World.cell?_of_block (w:=w) (hb b h3)]
  exact h4
 ·exact h1
theorem ly{H:Nat→Option ar}{id:Nat}{v:ar}: ∀i,H i≠none→au H id (some v) i≠none:=λ_ h=>nN h
theorem pF{H:Nat→Option ar}{id:Nat}{v:ar}(hv: ∀τ x p j,v≠ .cQ τ x p j){i:Nat}{τ:Ty}{x:τ.den}{p:List Step}{j:Nat}(h:au H id (some v) i=some (.cQ τ x p j)):H i=some (.cQ τ x p j):=by
 by_cases ay:i=id
 ·subst ay;rw[aa]at h;cases h;exact absurd rfl (hv _ _ _ _)
 ·rw[ae _ _ ay]at h;exact h
theorem Tr.alloc{c:Ctx}{H:Nat→Option ar}{w:World}{M:Nat→Prop}{ν:Nat→Value}(h:Mem c H w M ν){id:Nat}(hid:H id=none)(o:Obj)(v:Value)(e:ar)(hm:e.mut)(wi: ∀τ x p j,e≠ .cQ τ x p j)
  (hb:bK v=none∨bK v=some w.heap.size) (tG:ER (w.alloc o) (λb=>M b∨b=w.heap.size) v e):
  Tr c H w M ν (au H id (some e)) (w.alloc o) (λb=>M b∨b=w.heap.size) (updν ν id v):=by
 have hk:bJ w M (w.alloc o) (λb=>M b∨b=w.heap.size):=
  ⟨by rw[size_alloc];omega,λb hb _=>eH w o hb,λb hb h'=>h'.resolve_right ω⟩
 have hν: ∀i,i≠id→updν ν id v i=ν i:=λi hi=>by simp[updν,hi]
 have hνs:updν ν id v id=v:=by simp[updν]
 have cy: ∀i e' b,H i=some e'→e'.mut→bK (ν i)=some b→b<w.heap.size:=λi e' b hi dz bA=>h.oy b ((h.dd i e' hi).jt dz bA)
 refine⟨⟨λi e' hi=> ?_,λi j e1 e2 b gH hi ew hj iC=> ?_,λi e1 b hi ew=> ?_,λi e1 l1 b hi=> ?_,fM h (λi hi=>hν i (λe=>hi (e▸hid))) ly (λi τ x p j hi=> .inl ⟨pF wi hi,λb hb=>eH w o (cy i _ b (pF wi hi) trivial (by rw[hb];rfl))⟩),λb hb=> .inl (h.sub b hb),λb bA=> ?_,λb bL lz=> ?_,?_,h.gf,h.os,h.tape,h.output⟩,hk,⟨λi e' hi=> ?_,λi hi=> ?_⟩⟩
 ·by_cases ay:i=id
  ·subst ay;rw[aa]at hi;cases hi;rw[hνs];exact tG
  ·rw[ae _ _ ay]at hi;rw[hν i ay]
   exact(h.dd i e' hi).aK hk λdz b bA=>⟨eH w o (cy i e' b hi dz bA),.inl ((h.dd i e' hi).jt dz bA)⟩
 ·by_cases ay:i=id
  ·subst ay;rw[aa]at hi;cases hi;rw[hνs]
   intro bL
   have rr:j≠i:=cf gH
   rw[ae _ _ rr]at hj;rw[hν j rr]
   intro lz
   have:=cy j e2 b hj iC lz
   rcases hb with hb|hb<;>rw[hb]at bL<;>simp at bL
   omega
  ·rw[ae _ _ ay]at hi;rw[hν i ay]
   by_cases rr:j=id
   ·subst rr;rw[hνs]
    intro bL lz
    have:=cy i e1 b hi ew bL
    rcases hb with hb|hb<;>rw[hb]at lz<;>simp at lz
    omega
   ·rw[ae _ _ rr]at hj;rw[hν j rr];exact h.ob i j e1 e2 b gH hi ew hj iC
 ·by_cases ay:i=id
  ·subst ay;rw[hνs]
   intro bL
   rcases hb with hb|hb<;>rw[hb]at bL<;>simp at bL
   subst bL;exact .inl h.size
  ·rw[ae _ _ ay]at hi;rw[hν i ay];exact h.new i e1 b hi ew
 ·by_cases ay:i=id
  ·subst ay;rw[hνs]
   intro bL h0
   rcases hb with hb|hb<;>rw[hb]at bL<;>simp at bL
   have:=h.gf.1 b h0
   have:=h.size
   omega
  ·rw[ae _ _ ay]at hi;rw[hν i ay];exact h.n7 i e1 l1 b hi
 ·rw[size_alloc]
  rcases bA with bA|bA
  ·have:=h.oy b bA;omega
  ·omega
 ·rw[eH w o (fe bL h.size)];exact h.frame b bL lz
 ·rw[size_alloc];have:=h.size;omega
 ·by_cases ay:i=id
  ·subst ay;rw[hid]at hi;cases hi
  ·exact⟨e',by rw[ae _ _ ay];exact hi,.refl e'⟩
 ·have ay:i≠id:=λe=>hi (e▸hid)
  exact hν i ay
theorem Tr.var{c:Ctx}{H:Nat→Option ar}{w:World}{M:Nat→Prop}{ν:Nat→Value}(h:Mem c H w M ν){id:Nat}(hid:H id=none)(t:TypeId){τ:Ty}{cs:Array Value}{x:τ.den}(hr:Rd w M τ cs.toList x):
  Tr c H w M ν (au H id (some (.obj τ x))) (w.alloc (.cells cs t)) (λb=>M b∨b=w.heap.size) (updν ν id (.pointer (some ⟨w.heap.size,0,none⟩))):=by
 refine Tr.alloc h hid _ _ _ trivial (λ_ _ _ _=>by simp) (.inr rfl) ?_
 simp only[ER]
 have hk:bJ w M (w.alloc (.cells cs t)) (λb=>M b∨b=w.heap.size):=
  ⟨by rw[size_alloc];omega,λb hb _=>eH w _ hb,λb hb h'=>h'.resolve_right ω⟩
 exact⟨w.heap.size,cs,t,rfl,pE w _,.inr rfl,hr.aK hk⟩
theorem Tr.row{c:Ctx}{H:Nat→Option ar}{w:World}{M:Nat→Prop}{ν:Nat→Value}(h:Mem c H w M ν){id:Nat}(hid:H id=none)(t:TypeId){e:Ty}{cs:Array Value}{l:List e.den}{cap:Nat}
  (hl:l.length≤cap) (hm:cap≤maxLen) (hs:cs.size=cap*e.size) (hr: ∀i (hi:i<l.length),Rd w M e ((cs.toList.drop (i*e.size)).take e.size) l[i]):
  Tr c H w M ν (au H id (some (.own e l))) (w.alloc (.cells cs t)) (λb=>M b∨b=w.heap.size) (updν ν id (.slice (some ⟨w.heap.size,0,none⟩) l.length cap)):=by
 have hk:bJ w M (w.alloc (.cells cs t)) (λb=>M b∨b=w.heap.size):=
  ⟨by rw[size_alloc];omega,λb hb _=>eH w _ hb,λb hb h'=>h'.resolve_right ω⟩
 refine Tr.alloc h hid _ _ _ trivial (λ_ _ _ _=>by simp) ?_ ?_
 ·simp only[bK];split
  ·exact .inl rfl
  ·exact .inr rfl
 ·simp only[ER]
  by_cases hc:cap=0
  ·subst hc
   have MY:l=[]:=ia ω
   subst MY
   exact .inl ⟨rfl,_,rfl⟩
  ·exact .inr ⟨w.heap.size,cs,t,cap,rfl,pE w _,.inr rfl,ω,hl,hm,hs,λi hi=>(hr i hi).aK hk⟩
theorem Tr.drew{c:Ctx}{H:Nat→Option ar}{w:World}{M:Nat→Prop}{ν:Nat→Value}(h:Mem c H w M ν):Tr c H w M ν H w.drew M ν:=by
 have hk:bJ w M w.drew M:=⟨aB _,λ_ _ _=>rfl,λ_ _ h=>h⟩
 exact⟨⟨λi e he=>(h.dd i e he).aK hk λhm b hb=>⟨rfl,(h.dd i e he).jt hm hb⟩,h.ob,h.new,h.n7,h.cQ,h.sub,h.oy,h.frame,h.size,h.gf,h.os,h.tape,h.output⟩,hk,.refl H ν⟩
theorem size_setRow(w:World)(g:Nat)(cs:Array Value):(w.setRow g cs).heap.size=w.heap.size:=by simp[World.setRow]
theorem Tr.write{c:Ctx}{H:Nat→Option ar}{w:World}{M:Nat→Prop}{ν:Nat→Value}(h:Mem c H w M ν){id:Nat}{e e':ar}(hid:H id=some e)(hm:e.mut)(dz:e'.mut)(hl:e.eg e')
  {b:Nat} (hb:bK (ν id)=some b) {cs new:Array Value} {t:TypeId} (hg:w.heap[b]? =some (.cells cs t (0,0)))
  (tG: ∀M',bJ w M (w.setRow b new) M'→M' b→ER (w.setRow b new) M' (ν id) e')
  (iU: ∀τ x p j,e'= .cQ τ x p j→H j≠none∧ ∃b',ν id= .pointer (some ⟨b',0,none⟩)∧(w.setRow b new).cell? ⟨b',aO p τ,none⟩=some (ν j):=by intro _ _ _ _ h;cases h):
  Tr c H w M ν (au H id (some e')) (w.setRow b new) M ν:=by
 have JS:M b:=(h.dd id e hid).jt hm hb
 have hk:bJ w M (w.setRow b new) M:=
  ⟨by rw[size_setRow];exact aB _,λb' _ hm=>setRow_other w b b' new (λe=>hm (e▸JS)),λ_ _ h=>h⟩
 refine⟨⟨λi e1 hi=> ?_,λi j e1 e2 b1 gH hi ew hj iC=> ?_,λi e1 b1 hi ew=> ?_,λi e1 l1 b1 hi=> ?_,fM h (λ_ _=>rfl) ly (λi τ x p j hi=> ?_),h.sub,λb1 bL=>by rw[size_setRow];exact h.oy b1 bL,λb1 bL lz=> ?_,by rw[size_setRow];exact h.size,h.gf,h.os,h.tape,h.output⟩,hk,⟨λi e1 hi=> ?_,λi hi=>rfl⟩⟩
 ·by_cases ay:i=id
  ·subst ay;rw[aa]at hi;cases hi;exact tG M hk JS
  ·rw[ae _ _ ay]at hi
   exact(h.dd i e1 hi).aK hk λew b1 bL=>⟨setRow_other w b b1 new (λe'=>h.ob i id e1 e b1 ay hi ew hid hm bL (e'▸hb)),(h.dd i e1 hi).jt ew bL⟩
 ·by_cases ay:i=id
  ·subst ay;rw[aa]at hi;cases hi
   have rr:j≠i:=cf gH
   rw[ae _ _ rr]at hj
   exact h.ob i j e e2 b1 gH hid hm hj iC
  ·rw[ae _ _ ay]at hi
   by_cases rr:j=id
   ·subst rr;exact h.ob i j e1 e b1 gH hi ew hid hm
   ·rw[ae _ _ rr]at hj;exact h.ob i j e1 e2 b1 gH hi ew hj iC
 ·by_cases ay:i=id
  ·subst ay;exact h.new i e b1 hid hm
  ·rw[ae _ _ ay]at hi;exact h.new i e1 b1 hi ew
 ·by_cases ay:i=id
  ·subst ay;rw[aa]at hi;cases hi
   cases e with
   |own e0 l0=>exact h.n7 i e0 l0 b1 hid
   |obj _ _=>simp[ar.eg]at hl
   |cQ _ _ _ _=>simp[ar.eg]at hl
   |gr _ _=>simp[ar.mut]at hm
   |cq _ _ _=>simp[ar.mut]at hm
   |gone=>simp[ar.mut]at hm
  ·rw[ae _ _ ay]at hi;exact h.n7 i e1 l1 b1 hi
 ·by_cases ay:i=id
  ·subst ay;rw[aa]at hi;cases hi
   obtain⟨h1,h2⟩:=iU _ _ _ _ rfl
   exact .inr ⟨nN h1,h2⟩
  ·rw[ae _ _ ay]at hi
   exact .inl ⟨hi,λb1 bL=>setRow_other w b b1 new (λe1=>h.ob i id _ e b1 ay hi trivial hid hm (by rw[bL];rfl) (e1▸hb))⟩
 ·rw[setRow_other w b b1 new]
  ·exact h.frame b1 bL lz
  ·intro MZ;subst MZ
   rcases h.new id e b1 hid hm hb with h'|h'
   ·omega
   ·exact lz h'
 ·by_cases ay:i=id
  ·subst ay;rw[hid]at hi;cases hi;exact⟨e',aa _ _ _,hl⟩
  ·exact⟨e1,by rw[ae _ _ ay];exact hi,.refl e1⟩
theorem Tr.rename{c:Ctx}{H:Nat→Option ar}{w:World}{M:Nat→Prop}{ν:Nat→Value}(h:Mem c H w M ν){j id:Nat}{e e':Ty}{l:List e.den}{l':List e'.den}(hj:H j=some (.own e l))(hid:H id=none)
  {v:Value} (hb:bK v=none∨bK v=bK (ν j)) (tG:ER w M v (.own e' l')):
  Tr c H w M ν (au (au H j (some .gone)) id (some (.own e' l'))) w M (updν ν id v):=by
 have dT:j≠id:=λe=>by rw[e,hid]at hj;cases hj
 have h1:=(Tr.gone h j).mem
 have gW:au H j (some .gone) id=none:=by rw[ae _ _ (cf dT)];exact hid
 have hν: ∀i,i≠id→updν ν id v i=ν i:=λi hi=>by simp[updν,hi]
 have hνs:updν ν id v id=v:=by simp[updν]
 refine⟨⟨λi e1 hi=> ?_,λi k e1 e2 b1 gH hi ew hk iC=> ?_,λi e1 b1 hi ew=> ?_,λi e1 l1 b1 hi=> ?_,fM h1 (λi hi=>hν i (λe=>hi (e▸gW))) ly (λi τ x p j hi=> .inl ⟨pF (λ_ _ _ _=>by simp) hi,λ_ _=>rfl⟩),h.sub,h.oy,h.frame,h.size,h.gf,h.os,h.tape,h.output⟩,.refl w M,⟨λi e1 hi=> ?_,λi hi=> ?_⟩⟩
 ·by_cases ay:i=id
  ·subst ay;rw[aa]at hi;cases hi;rw[hνs];exact tG
  ·rw[ae _ _ ay]at hi;rw[hν i ay];exact h1.dd i e1 hi
 ·by_cases ay:i=id
  ·subst ay;rw[aa]at hi;cases hi;rw[hνs]
   have vt:k≠i:=cf gH
   rw[ae _ _ vt]at hk;rw[hν k vt]
   intro bL
   rcases hb with hb|hb
   ·rw[hb]at bL;cases bL
   ·rw[hb]at bL
    by_cases PU:k=j
    ·subst PU;rw[aa]at hk;cases hk;simp[ar.mut]at iC
    ·rw[ae _ _ PU]at hk;exact h.ob j k _ e2 b1 (cf PU) hj trivial hk iC bL
  ·rw[ae _ _ ay]at hi;rw[hν i ay]
   by_cases vt:k=id
   ·subst vt;rw[hνs]
    intro bL lz
    rcases hb with hb|hb
    ·rw[hb]at lz;cases lz
    ·rw[hb]at lz
     by_cases vF:i=j
     ·subst vF;rw[aa]at hi;cases hi;simp[ar.mut]at ew
     ·rw[ae _ _ vF]at hi;exact h.ob j i _ e1 b1 (cf vF) hj trivial hi ew lz bL
   ·rw[ae _ _ vt]at hk;rw[hν k vt];exact h1.ob i k e1 e2 b1 gH hi ew hk iC
 ·by_cases ay:i=id
  ·subst ay;rw[hνs];intro bL
   rcases hb with hb|hb
   ·rw[hb]at bL;cases bL
   ·rw[hb]at bL;exact h.new j _ b1 hj trivial bL
  ·rw[ae _ _ ay]at hi;rw[hν i ay];exact h1.new i e1 b1 hi ew
 ·by_cases ay:i=id
  ·subst ay;rw[hνs];intro bL
   rcases hb with hb|hb
   ·rw[hb]at bL;cases bL
   ·rw[hb]at bL;exact h.n7 j e l b1 hj bL
  ·rw[ae _ _ ay]at hi;rw[hν i ay];exact h1.n7 i e1 l1 b1 hi
 ·by_cases vF:i=j
  ·subst vF;exact⟨.gone,by rw[ae _ _ dT,aa],by cases e1<;>simp[ar.eg]⟩
  ·have ay:i≠id:=λe=>by rw[e,hid]at hi;cases hi
   exact⟨e1,by rw[ae _ _ ay,ae _ _ vF];exact hi,.refl e1⟩
 ·exact hν i (λe=>hi (e▸hid))
theorem Tr.M4{c:Ctx}{H:Nat→Option ar}{w:World}{M:Nat→Prop}{ν:Nat→Value}(h:Mem c H w M ν){id:Nat}{e e':ar}(hid:H id=some e)(hm:e.mut)(dz:e'.mut)(hl:e.eg e')(gX: ∀e0 l0,e'≠ .own e0 l0)
  (tG:ER w M (ν id) e') (iU: ∀τ x p j,e'= .cQ τ x p j→H j≠none∧ ∃b',ν id= .pointer (some ⟨b',0,none⟩)∧w.cell? ⟨b',aO p τ,none⟩=some (ν j)):
  Tr c H w M ν (au H id (some e')) w M ν:=by
 refine⟨⟨λi e1 hi=> ?_,λi j e1 e2 b1 gH hi ew hj iC=> ?_,λi e1 b1 hi ew=> ?_,λi e1 l1 b1 hi=> ?_,fM h (λ_ _=>rfl) ly (λi τ x p j hi=> ?_),h.sub,h.oy,h.frame,h.size,h.gf,h.os,h.tape,h.output⟩,.refl w M,⟨λi e1 hi=> ?_,λi hi=>rfl⟩⟩
 ·by_cases ay:i=id
  ·subst ay;rw[aa]at hi;cases hi;exact tG
  ·rw[ae _ _ ay]at hi;exact h.dd i e1 hi
 ·by_cases ay:i=id
  ·subst ay;rw[aa]at hi;cases hi
   have rr:j≠i:=cf gH
   rw[ae _ _ rr]at hj
   exact h.ob i j e e2 b1 gH hid hm hj iC
  ·rw[ae _ _ ay]at hi
   by_cases rr:j=id
   ·subst rr;exact h.ob i j e1 e b1 gH hi ew hid hm
   ·rw[ae _ _ rr]at hj;exact h.ob i j e1 e2 b1 gH hi ew hj iC
 ·by_cases ay:i=id
  ·subst ay;exact h.new i e b1 hid hm
  ·rw[ae _ _ ay]at hi;exact h.new i e1 b1 hi ew
 ·by_cases ay:i=id
  ·subst ay;rw[aa]at hi;cases hi;exact absurd rfl (gX _ _)
  ·rw[ae _ _ ay]at hi;exact h.n7 i e1 l1 b1 hi
 ·by_cases ay:i=id
  ·subst ay;rw[aa]at hi;cases hi
   obtain⟨h1,h2⟩:=iU _ _ _ _ rfl
   exact .inr ⟨nN h1,h2⟩
  ·rw[ae _ _ ay]at hi;exact .inl ⟨hi,λ_ _=>rfl⟩
 ·by_cases ay:i=id
  ·subst ay;rw[hid]at hi;cases hi;exact⟨e',aa _ _ _,hl⟩
  ·exact⟨e1,by rw[ae _ _ ay];exact hi,.refl e1⟩
theorem Tr.nothing{c:Ctx}{w:World}{M:Nat→Prop}{ν:Nat→Value}{H:Nat→Option ar}(h:Mem c H w M ν){id:Nat}(hid:H id=none)(e:Ty)(ad:Option Addr):
  Tr c H w M ν (au H id (some (.own e []))) w M (updν ν id (.slice ad 0 0)):=by
 have hν: ∀i,i≠id→updν ν id (.slice ad 0 0) i=ν i:=λi hi=>by simp[updν,hi]
 have hνs:updν ν id (.slice ad 0 0) id= .slice ad 0 0:=by simp[updν]
 have hb:bK (.slice ad 0 0)=none:=by cases ad<;>simp[bK]
 refine⟨⟨λi e1 hi=> ?_,λi k e1 e2 b1 gH hi ew hk iC=> ?_,λi e1 b1 hi ew=> ?_,λi e1 l1 b1 hi=> ?_,fM h (λi hi=>hν i (λe=>hi (e▸hid))) ly (λi τ x p j hi=> .inl ⟨pF (λ_ _ _ _=>by simp) hi,λ_ _=>rfl⟩),h.sub,h.oy,h.frame,h.size,h.gf,h.os,h.tape,h.output⟩,.refl w M,⟨λi e1 hi=> ?_,λi hi=>hν i (λe=>hi (e▸hid))⟩⟩
 ·by_cases ay:i=id
  ·subst ay;rw[aa]at hi;cases hi;rw[hνs];simp only[ER];exact .inl ⟨trivial,ad,rfl⟩
  ·rw[ae _ _ ay]at hi;rw[hν i ay];exact h.dd i e1 hi
 ·by_cases ay:i=id
  ·subst ay;rw[hνs,hb];intro h';cases h'
  ·rw[ae _ _ ay]at hi;rw[hν i ay]
   by_cases vt:k=id
   ·subst vt;rw[hνs,hb];intro _ h';cases h'
   ·rw[ae _ _ vt]at hk;rw[hν k vt];exact h.ob i k e1 e2 b1 gH hi ew hk iC
 ·by_cases ay:i=id
  ·subst ay;rw[hνs,hb];intro h';cases h'
  ·rw[ae _ _ ay]at hi;rw[hν i ay];exact h.new i e1 b1 hi ew
 ·by_cases ay:i=id
  ·subst ay;rw[hνs,hb];intro h';cases h'
  ·rw[ae _ _ ay]at hi;rw[hν i ay];exact h.n7 i e1 l1 b1 hi
 ·have ay:i≠id:=λe=>by rw[e,hid]at hi;cases hi
  exact⟨e1,by rw[ae _ _ ay];exact hi,.refl e1⟩
theorem aw{α:Type}{υ τ:Ty}{y:υ.den}{k:τ.den→Option α}{r:α}(h:aP υ τ y k=some r): ∃e:υ=τ,k (e▸y)=some r:=by
 unfold aP at h
 split at h
 ·rename_i e;exact⟨e,h⟩
 ·cases h
theorem bB{α:Type}{υ τ:Ty}{k:Option α}{r:α}(h:dx υ τ k=some r):υ=τ∧k=some r:=by
 unfold dx at h
 split at h
 ·rename_i e;exact⟨e,h⟩
 ·cases h
theorem V.slice{w:World}{M:Nat→Prop}{e:Ty}{v:Value}{l:List e.den}:V w M (.slice e) v l↔Rd w M (.slice e) [v] l:=by
 unfold V;rw[ag (by simp[Ty.isAgg])]
def Fz(H H1:Nat→Option ar):Prop:= ∀i,H1 i=H i∨ ∃e l,H i=some (.own e l)∧H1 i=some (.gr e l)
theorem Fz.refl(H:Nat→Option ar):Fz H H:=λ_=> .inl rfl
theorem Fz.none{H H1:Nat→Option ar}(h:Fz H H1){i:Nat}(hi:H i=none):H1 i=none:=by
 rcases h i with h'|⟨e,l,h',_⟩
 ·rw[h',hi]
 ·rw[hi]at h';cases h'
theorem Fz.obj{H H1:Nat→Option ar}(h:Fz H H1){i:Nat}{τ:Ty}{x:τ.den}(hi:H i=some (.obj τ x)):H1 i=some (.obj τ x):=by
 rcases h i with h'|⟨e,l,h',_⟩
 ·rw[h',hi]
 ·rw[hi]at h';cases h'
theorem qG{H:Nat→Option ar}{id:Nat}{e:Option ar}(h:H id=e):au H id e=H:=by
 funext i
 by_cases hi:i=id
 ·subst hi;rw[aa,h]
 ·rw[ae _ _ hi]
theorem eh{α:Type}{c:Ctx}{H H1:Nat→Option ar}{w:World}{M:Nat→Prop}{ν:Nat→Value}(hz:Fz H H1)(hm:Mem c H1 w M ν){a:ax}{v:Value}(hv:VR w M H1 ν a v){τ:Ty}
  {k:τ.den→List Nat→dh→Option α} {r:α} (h:fk true a H τ k=some r):
  ∃y rd ups M',k y rd ups=some r∧Tr c H1 w M ν (aN H1 ups) w M' ν∧V w M' τ v y∧Fz H (aN H1 ups)∧ ∀i,rd.contains i=false→aN H1 ups i=H1 i:=by
 unfold fk at h
 split at h
 ·
  obtain⟨e,h⟩:=aw h
  subst e
  simp only[VR]at hv
  exact⟨_,[],[],M,h,.refl hm,hv,hz,λ_ _=>rfl⟩
 ·
  obtain⟨e,h⟩:=aw h
  subst e
  simp only[VR]at hv
  exact⟨_,[],[],M,h,.refl hm,hv.1,hz,λ_ _=>rfl⟩
 ·
  split at h
  ·rename_i e k' _
   simp only[VR]at hv
   obtain⟨a,rfl⟩:=hv
   refine⟨[],[],[],M,h,.refl hm,V.slice.2 ?_,hz,λ_ _=>rfl⟩
   simp only[Rd]
   exact⟨a,0,rfl,aB _,λi hi=>absurd hi (by simp)⟩
  ·cases h
 ·rename_i id
  simp only[VR]at hv
  obtain⟨_,rfl⟩:=hv
  split at h
  ·rename_i e l hid
   obtain⟨e',h⟩:=aw h
   subst e'
   rcases hz id with h1|⟨e1,l1,h1,h2⟩
   ·rw[hid]at h1
    obtain⟨M',cI,hV,_⟩:=Tr.freeze hm h1
    refine⟨_,_,_,M',h,cI,hV,λi=> ?_,λi hi=>ae _ _ (by simpa using hi)⟩
    show au H1 id (some (.gr e l)) i=H i∨_
    by_cases hi:i=id
    ·subst hi;exact .inr ⟨e,l,hid,aa _ _ _⟩
    ·rw[ae _ _ hi]
     rcases hz i with h'|⟨e2,l2,h2,h3⟩
     ·exact .inl h'
     ·exact .inr ⟨e2,l2,h2,by show au H1 id _ i=_;rw[ae _ _ hi];exact h3⟩
   ·rw[hid]at h1;cases h1
    have:=hm.dd id _ h2
    simp only[ER]at this
    refine⟨_,_,[(id,some (.gr e l))],M,h,?_,V.slice.2 this.1,?_,λi hi=>ae _ _ (by simpa using hi)⟩
    ·show Tr c H1 w M ν (au H1 id (some (.gr e l))) w M ν
     rw[qG h2];exact .refl hm
    ·show Fz H (au H1 id (some (.gr e l)))
     rw[qG h2];exact hz
  ·rename_i e l hid
   obtain⟨e',h⟩:=aw h
   subst e'
   have h1:H1 id=some (.gr e l):=by
    rcases hz id with h1|⟨e1,l1,h1,h2⟩
    ·rw[h1,hid]
    ·rw[hid]at h1;cases h1
   have:=hm.dd id _ h1
   simp only[ER]at this
   exact⟨_,_,_,M,h,.refl hm,V.slice.2 this.1,hz,λ_ _=>rfl⟩
  ·cases h
 ·cases h
def Src(w:World)(M:Nat→Prop)(e:Ty)(v:Value)(l:List e.den):Prop:=
 ∃a cap,v= .slice a l.length cap∧ ∀i (h:i<l.length),∃b off cs,a=some ⟨b,off,none⟩∧At w b (off+i*e.size) cs∧Rd w M e cs l[i]
theorem Src.JT{w:World}{M:Nat→Prop}{e:Ty}{v:Value}{l:List e.den}(h:V w M (.slice e) v l):Src w M e v l:=by
 have h:=V.slice.1 h
 simp only[Rd,cc,cn]at h
 obtain⟨a,cap,rfl,_,hr⟩:=h
 refine⟨a,cap,rfl,λi hi=> ?_⟩
 obtain⟨b,off,ha,_,_,cs,jo,eJ⟩:=hr i hi
 exact⟨b,off,cs,ha,jo,eJ⟩
theorem ry{α:Type}{c:Ctx}{H:Nat→Option ar}{w:World}{M:Nat→Prop}{ν:Nat→Value}(hm:Mem c H w M ν){a:ax}{v:Value}(hv:VR w M H ν a v){e:Ty}
  {k:List e.den→List Nat→dh→Option α} {r:α} (h:fk false a H (.slice e) k=some r):
  ∃y rd,k y rd []=some r∧Src w M e v y:=by
 unfold fk at h
 split at h
 ·obtain⟨e',h⟩:=aw h
  subst e'
  simp only[VR]at hv
  exact⟨_,[],h,.JT hv⟩
 ·obtain⟨e',h⟩:=aw h
  subst e'
  simp only[VR]at hv
  exact⟨_,[],h,.JT hv.1⟩
 ·have h:k [] [] []=some r:=h
  simp only[VR]at hv
  obtain⟨a,rfl⟩:=hv
  exact⟨[],[],h,a,0,rfl,λi hi=>absurd hi (by simp)⟩
 ·rename_i id
  simp only[VR]at hv
  obtain⟨_,rfl⟩:=hv
  split at h
  ·rename_i e1 l hid
   obtain⟨e',h⟩:=aw h
   cases e'
   refine⟨_,_,h,?_⟩
   have:=hm.dd id _ hid
   simp only[ER]at this
   rcases this with⟨rfl,a,hv⟩|⟨b,cs,t,cap,hv,hb,hM,hc,hl,sO,hs,hr⟩
   ·exact⟨a,0,hv,λi hi=>absurd hi (by simp)⟩
   ·refine⟨_,cap,hv,λi hi=>⟨b,0,_,rfl,?_,hr i hi⟩⟩
    rw[cF]
    exact At.of_block hb _ _
  ·rename_i e1 l hid
   obtain⟨e',h⟩:=aw h
   cases e'
   have:=hm.dd id _ hid
   simp only[ER]at this
   exact⟨_,_,h,.JT (V.slice.2 this.1)⟩
  ·cases h
 ·cases h
theorem Src.cells{w:World}{M:Nat→Prop}{e:Ty}{v:Value}{l:List e.den}(h:Src w M e v l)(dT:l≠[]):
  ∃b off cap news,v= .slice (some ⟨b,off,none⟩) l.length cap∧news.length=l.length*e.size∧At w b off news∧
   (∀i (hi:i<l.length),Rd w M e ((news.drop (i*e.size)).take e.size) l[i])∧ ∀u∈news,u.oneCell'=true:=by
 obtain⟨a,cap,rfl,hr⟩:=h
 have h0:0<l.length:=mM.2 dT
 obtain⟨b,off,_,ha,_⟩:=hr 0 h0
 subst ha
 have key: ∀n,n≤l.length→ ∃news:List Value,news.length=n*e.size∧At w b off news∧
   (∀i (hi:i<l.length),i<n→Rd w M e ((news.drop (i*e.size)).take e.size) l[i])∧ ∀u∈news,u.oneCell'=true:=by
  intro n
  induction n with
  |zero=>exact λ_=>⟨[],by simp,λj v hj=>by simp at hj,λi _ hi=>ω,by simp⟩
  |succ n ih=>
   intro hn
   obtain⟨news,hl,jo,eJ,qH⟩:=ih ω
   obtain⟨b',UW,cs,ha,QL,Cj⟩:=hr n ω
   cases ha
   refine⟨news++cs,by rw[aQ,hl,Cj.length,bO,ea],At.append.2 ⟨jo,by rw[hl];exact QL⟩,λi hi gu=> ?_,λu hu=> ?_⟩
   ·by_cases cy:i<n
    ·have h1:(i+1)*e.size≤n*e.size:=dD _ cy
     rw[bO,ea]at h1
     rw[oS ω,oR (by rw[cT];omega)]
     exact eJ i hi cy
    ·obtain rfl:i=n:=ω
     rw[gp hl,eA (by rw[Cj.length];exact aB _)]
     exact Cj
   ·rcases bg.1 hu with hu|hu
    ·exact qH u hu
    ·exact Cj.eE u hu
 obtain⟨news,hl,jo,eJ,qH⟩:=key l.length (aB _)
 exact⟨b,off,cap,news,rfl,hl,jo,λi hi=>eJ i hi hi,qH⟩
structure Core(c:Ctx)(σ:St)(tm:Array Value)(w:World)(M:Nat→Prop)(ν:Nat→Value):Prop where
 mem:Mem c σ.H w M ν
 tmp: ∀i,VR w M σ.H ν (σ.T i) (tm.getD i undef)
theorem Ck(w:World)(M:Nat→Prop)(H:Nat→Option ar)(ν:Nat→Value)(v:Value):VR w M H ν (QF v) v:=by
 unfold QF
 split<;>simp[VR,V,Ty.isAgg,Rd]
theorem Core.op{c:Ctx}{σ:St}{tm:Array Value}{w:World}{M:Nat→Prop}{ν:Nat→Value}(h:Core c σ tm w M ν)(ds:List Deferred)(x:Operand):
  VR w M σ.H ν (σ.ρ x) (({tmps:=tm,defers:=ds}:Act).eval x):=by
 cases x with
 |tmp t=>exact h.tmp t
 |const v=>exact Ck w M σ.H ν v
 |global g=>simp[St.ρ,VR]
 |func f=>simp[St.ρ,VR,dF,Act.eval]
def M5(P:Program)(t:TypeId)(τ:Ty):Prop:=
 ∀(w:World) (M:Nat→Prop) (u v:Value) (x y:τ.den) (b:BinOp) (xo yo:Operand),V w M τ u x→V w M τ v y→
  (eqGuard b t xo yo u v).run P w= .ok () w∧(binOp .eql t u v).run P w= .ok (.bool (kW τ x y)) w∧(binOp .neq t u v).run P w= .ok (.bool (!kW τ x y)) w
structure EnvTy(P:Program)(E:Env):Prop where
 ty: ∀t τ,E.ty t=some τ→dY P τ t
 eq: ∀t τ,E.ty t=some τ→τ.comparable=true→τ.isAgg=true→M5 P t τ
end VM
end
section
namespace VM
open Go
variable{P:Program}
theorem pG{o:Oper}{ρ:Operand→Value}{t:TypeId}{i:TypeInfo}{z:Value}(ho:o.op= .alloc t)(hi:P.info? t=some i)(hz:i.zero=some z)(w:World):
  (execOp ρ o).run P w= .ok (.value (.pointer (some ⟨w.heap.size,0,none⟩))) (w.alloc (.cells z.cells t)):=by
 simp[execOp,ho,Instr.alloc,zeroValue,typeInfo,hi,hz,newVar,newRow]
theorem tH{o:Oper}{ρ:Operand→Value}{t:TypeId}{x:Operand}(ho:o.op= .box t x)(w:World):
  (execOp ρ o).run P w= .ok (.value (.pointer (some ⟨w.heap.size,0,none⟩))) (w.alloc (.cells (ρ x).cells t)):=by
 simp[execOp,ho,Instr.box,newVar,newRow]
theorem iD{τ:Ty}{t:TypeId}(h:dY P τ t)(w:World):(isAgg t).run P w= .ok τ.isAgg w:=by
 unfold dY at h
 cases τ<;>simp only[cL]at h
 ·simp[isAgg,run_underlying h.2,Ty.isAgg]
 ·simp[isAgg,run_underlying h.2,Ty.isAgg]
 ·simp[isAgg,run_underlying h.2,Ty.isAgg]
 ·obtain⟨_,e',h',_⟩:=h;simp[isAgg,run_underlying h',Ty.isAgg]
 ·obtain⟨_,e',h',_⟩:=h;simp[isAgg,run_underlying h',Ty.isAgg]
 ·obtain⟨_,e',f,h',_⟩:=h;simp[isAgg,run_underlying h',Ty.isAgg]
 ·obtain⟨_,e',h',_⟩:=h;simp[isAgg,run_underlying h',Ty.isAgg]
theorem bp{τ:Ty}{t:TypeId}(h:dY P τ t)(w:World):(Go.sizeOf t).run P w= .ok τ.size w:=by
 obtain⟨i,hi,hs,_⟩:=h.base
 simp[Go.sizeOf,typeInfo,hi,hs]
theorem rz{w:World}{M:Nat→Prop}{τ:Ty}{t:TypeId}(h:dY P τ t){b off:Nat}{cs:List Value}{x:τ.den}(ha:At w b off cs)(hr:Rd w M τ cs x):
  (loadVar t ⟨b,off,none⟩).run P w= .ok (aC τ cs) w:=by
 have hl:(loadCells ⟨b,off,none⟩ τ.size).run P w= .ok cs.toArray w:=by
  rw[←hr.length]
  exact run_loadCells_list w _ cs λj v hj=>by rw[show(⟨b,off,none⟩:Addr).add j=⟨b,off+j,none⟩from by unfold Addr.add;split<;>simp_all];exact ha j v hj
 unfold aC
 by_cases tI:τ.isAgg=true
 ·simp[loadVar,iD h,tI,bp h,hl]
 ·obtain⟨v,rfl,hc⟩:=hr.scalar (by simpa using tI)
  have h0:=ha 0 v rfl
  simp only[eR]at h0
  simp[loadVar,iD h,tI,load,Sem.run,h0]
theorem rA{w:World}{τ:Ty}{t:TypeId}(h:dY P τ t)(tI:τ.isAgg=true){b off:Nat}{cs:List Value}(ha:At w b off cs)(hl:cs.length=τ.size):
  (loadVar t ⟨b,off,none⟩).run P w= .ok (.agg cs.toArray) w:=by
 have hl:(loadCells ⟨b,off,none⟩ τ.size).run P w= .ok cs.toArray w:=by
  rw[←hl]
  exact run_loadCells_list w _ cs λj v hj=>by rw[show(⟨b,off,none⟩:Addr).add j=⟨b,off+j,none⟩from by unfold Addr.add;split<;>simp_all];exact ha j v hj
 simp[loadVar,iD h,tI,bp h,hl]
theorem tJ{o:Oper}{ρ:Operand→Value}{t:TypeId}{x:Operand}(ho:o.op= .load t x){w:World}{τ:Ty}(h:dY P τ t)(tI:τ.isAgg=true){b off:Nat}{cs:List Value}
  (hx:ρ x= .pointer (some ⟨b,off,none⟩)) (ha:At w b off cs) (hl:cs.length=τ.size):
  (execOp ρ o).run P w= .ok (.value (.agg cs.toArray)) w:=by
 simp[execOp,ho,hx,Instr.loadAt,Instr.sureAddr,rA h tI ha hl]
theorem nf{o:Oper}{ρ:Operand→Value}{t:TypeId}{x:Operand}(ho:o.op= .load t x){w:World}{M:Nat→Prop}{τ:Ty}(h:dY P τ t){b off:Nat}{cs:List Value}{y:τ.den}
  (hx:ρ x= .pointer (some ⟨b,off,none⟩)) (ha:At w b off cs) (hr:Rd w M τ cs y):
  (execOp ρ o).run P w= .ok (.value (aC τ cs)) w:=by
 simp[execOp,ho,hx,Instr.loadAt,Instr.sureAddr,rz h ha hr]
theorem dG{o:Oper}{ρ:Operand→Value}{t:TypeId}{x y:Operand}(ho:o.op= .store t x y){w:World}{τ:Ty}(h:dY P τ t){b off:Nat}{cur:Array Value}{te:TypeId}
  (hx:ρ x= .pointer (some ⟨b,off,none⟩)) (hg:w.heap[b]? =some (.cells cur te (0,0))) (hs:(ρ y).cells.size=τ.size) (hf:off+τ.size≤cur.size) (h1: ∀v∈(ρ y).cells.toList,v.oneCell'=true):
  (execOp ρ o).run P w= .ok .skip (w.setRow b (cur.toList.take off++(ρ y).cells.toList++cur.toList.drop (off+(ρ y).cells.toList.length)).toArray):=by
 have wj:=run_storeCells_at (P:=P) b off te (ρ y).cells.toList 0 cur w hg (by simp[hs];omega) h1
 simp only[eR]at wj
 simp[execOp,ho,hx,Instr.storeAt,Instr.sureAddr,storeVar,bp h,hs,wj]
theorem kE{o:Oper}{ρ:Operand→Value}{t:TypeId}{x:Operand}{n:Nat}(ho:o.op= .fieldAddr t x n){w:World}{fs:Array Field}{f:Field}{b off:Nat}{υ:Ty}
  (hu:P.underlying t=some (.struct fs)) (hf:fs[n]? =some f) (hl:dY P υ f.type) (hz:υ.size≠0) (hx:ρ x= .pointer (some ⟨b,off,none⟩)):
  ∃a,(execOp ρ o).run P w= .ok (.value a) w∧a= .pointer (some ⟨b,off+f.offset,none⟩):=by
 refine⟨_,?_,rfl⟩
 simp[execOp,ho,hx,Instr.fieldAt,Instr.sureAddr,run_underlying hu,hf,fieldPlace,Addr.add_lit,bp hl,hz]
theorem pH{τ:Ty}{t:TypeId}(h:dY P τ t){w:World}{M:Nat→Prop}{cs:Array Value}{off:Nat}{x:τ.den}(hr:Rd w M τ ((cs.toList.drop off).take τ.size) x):
  (part t cs off).run P w= .ok (aC τ ((cs.toList.drop off).take τ.size)) w:=by
 have hl:=hr.length
 unfold aC
 by_cases tI:τ.isAgg=true
 ·simp only[part,Sem.run_bind,iD h,Result.andThen_ok,tI,dv,bp h]
  simp
  rw[aT,cT,az]at hl
  apply dt
  simp only[Array.toList_extract,List.extract_eq_take_drop,oX]
 ·obtain⟨v,hv,hc⟩:=hr.scalar (by simpa using tI)
  rw[hv]
  have h0:cs[off]? =some v:=by
   have:=iO (λl=>l[0]?) hv
   simp only[ff,fg]at this
   split at this
   ·simpa using this
   ·simp at this
  simp[part,iD h,tI,h0]
theorem xc{o:Oper}{ρ:Operand→Value}{t:TypeId}{x:Operand}{n:Nat}(ho:o.op= .field t x n){w:World}{M:Nat→Prop}{fs:Array Field}{f:Field}{cs:Array Value}{υ:Ty}{y:υ.den}
  (hu:P.underlying t=some (.struct fs)) (hf:fs[n]? =some f) (hl:dY P υ f.type) (hx:ρ x= .agg cs) (hr:Rd w M υ ((cs.toList.drop f.offset).take υ.size) y):
  (execOp ρ o).run P w= .ok (.value (aC υ ((cs.toList.drop f.offset).take υ.size))) w:=by
 simp[execOp,ho,hx,Instr.field,run_underlying hu,hf,asAgg,pH hl hr]
theorem du{o:Oper}{ρ:Operand→Value}{t e:TypeId}{x i:Operand}(ho:o.op= .indexAddr t x i){w:World}{τe:Ty}{b off len cap:Nat}{k:IntKind}{n:Int}
  (hu:P.underlying t=some (.slice e)) (he:dY P τe e) (hx:ρ x= .slice (some ⟨b,off,none⟩) len cap) (hi:ρ i= .int k n) (h0:0≤n) (h1:n<(len:Int)):
  (execOp ρ o).run P w= .ok (.value (.pointer (some ⟨b,off+n.toNat*τe.size,none⟩))) w:=by
 simp[execOp,ho,hx,hi,Instr.indexAt,asIntOf,run_underlying hu,h0,h1,bp he,Addr.add_lit]
theorem jI{o:Oper}{ρ:Operand→Value}{t e:TypeId}{x i:Operand}(ho:o.op= .indexAddr t x i){w:World}{τe:Ty}{b off len:Nat}{k:IntKind}{n:Int}
  (hu:P.underlying t=some (.array len e)) (he:dY P τe e) (hx:ρ x= .pointer (some ⟨b,off,none⟩)) (hi:ρ i= .int k n) (h0:0≤n) (h1:n<(len:Int)):
  (execOp ρ o).run P w= .ok (.value (.pointer (some ⟨b,off+n.toNat*τe.size,none⟩))) w:=by
 simp[execOp,ho,hx,hi,Instr.indexAt,Instr.sureAddr,asIntOf,run_underlying hu,h0,h1,bp he,Addr.add_lit]
theorem vG{o:Oper}{ρ:Operand→Value}{t e:TypeId}{x i:Operand}(ho:o.op= .index t x i){w:World}{M:Nat→Prop}{τe:Ty}{len:Nat}{k:IntKind}{n:Int}{cs:Array Value}{y:τe.den}
  (hu:P.underlying t=some (.array len e)) (he:dY P τe e) (hx:ρ x= .agg cs) (hi:ρ i= .int k n) (h0:0≤n) (h1:n<(len:Int)) (hr:Rd w M τe ((cs.toList.drop (n.toNat*τe.size)).take τe.size) y):
  (execOp ρ o).run P w= .ok (.value (aC τe ((cs.toList.drop (n.toNat*τe.size)).take τe.size))) w:=by
 simp[execOp,ho,hx,hi,Instr.index,asIntOf,run_underlying hu,h0,h1,bp he,pH he hr]
theorem tK{o:Oper}{ρ:Operand→Value}{x:Operand}{n:Nat}(ho:o.op= .extract x n){w:World}{us:List Value}{v:Value}(hx:ρ x= .tuple us.toArray)(hv:us[n]? =some v):
  (execOp ρ o).run P w= .ok (.value v) w:=by
 simp[execOp,ho,hx,Instr.extract,hv]
theorem yK{o:Oper}{ρ:Operand→Value}{x y z:Operand}(ho:o.op= .pick x y z){w:World}{b:Bool}(hx:ρ x= .bool b):
  (execOp ρ o).run P w= .ok (.value (if b then ρ y else ρ z)) w:=by
 simp[execOp,ho,hx,asBool]
theorem mg{o:Oper}{ρ:Operand→Value}{x:Operand}(ho:o.op= .nilCheck x){w:World}{a:Addr}(hx:ρ x= .pointer (some a)):
  (execOp ρ o).run P w= .ok (.value (.pointer (some a))) w:=by
 simp[execOp,ho,hx]
theorem ss{o:Oper}{ρ:Operand→Value}{f:FuncId}{first iQ:Array Operand}(ho:o.op= .makeFunc (.func f) first iQ)(hf:first= #[]){w:World}:
  (execOp ρ o).run P w= .ok (.value (.func (.func f) #[] (iQ.map ρ))) w:=by
 subst hf
 simp[execOp,ho,Instr.makeFunc]
theorem tL{o:Oper}{ρ:Operand→Value}{s d:TypeId}{x:Operand}(ho:o.op= .convert s d x){w:World}{k k':IntKind}{n:Int}(hs:(P.underlying s).isSome=true)(hd:P.underlying d=some (.int k))(hx:ρ x= .int k' n):
  (execOp ρ o).run P w= .ok (.value (.int k (k.wrap n))) w:=by
 obtain⟨ds,hs⟩:=Option.isSome_iff_exists.1 hs
 simp[execOp,ho,hx,convert,run_underlying hs,run_underlying hd,Conv.intToInt]
theorem ng{o:Oper}{ρ:Operand→Value}{u:UnOp}{t:TypeId}{x:Operand}(ho:o.op= .unOp u t x){w:World}{v:Value}(h:(Op.unary u (ρ x)).run P w= .ok v w):
  (execOp ρ o).run P w= .ok (.value v) w:=by
 simp[execOp,ho,h]
theorem iq{o:Oper}{ρ:Operand→Value}{b:BinOp}{t t':TypeId}{x y:Operand}(ho:o.op= .binOp b t x y t'){w:World}{v:Value}
  (hg:(eqGuard b t x y (ρ x) (ρ y)).run P w= .ok () w) (h:(binOp b t (ρ x) (ρ y)).run P w= .ok v w):
  (execOp ρ o).run P w= .ok (.value v) w:=by
 simp[execOp,ho,hg,h]
theorem gY{b:BinOp}{t:TypeId}{x y:Operand}{k k':IntKind}{m n:Int}(w:World):(eqGuard b t x y (.int k m) (.int k' n)).run P w= .ok () w:=by
 cases b<;>simp[eqGuard]
theorem qI{b:BinOp}{t:TypeId}{x y:Operand}{m n:Bool}(w:World):(eqGuard b t x y (.bool m) (.bool n)).run P w= .ok () w:=by
 cases b<;>simp[eqGuard]
theorem su{b:BinOp}{t:TypeId}{x y:Operand}{m n:ByteArray}(w:World):(eqGuard b t x y (.string m) (.string n)).run P w= .ok () w:=by
 cases b<;>simp[eqGuard]
theorem fN{o:Oper}{ρ:Operand→Value}{b:Builtin}{args:Array Operand}{ts:Array TypeId}(ho:o.op= .call {callee:= .builtin b,args,argTypes:=ts}){w:World}:
  ∃cs,(execOp ρ o).run P w=(builtin b ts o.type cs (args.map ρ)).run P w:=by
 refine⟨args.map fun| .const _=>true|_=>false,?_⟩
 simp[execOp,ho,resolve,invoke]
 rfl
end VM
end
