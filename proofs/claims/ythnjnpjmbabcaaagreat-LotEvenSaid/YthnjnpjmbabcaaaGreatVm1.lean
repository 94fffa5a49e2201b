/- A part of the proof of LotEven of layer 23: a machine that reads a function of the program as an equation between values. -/
import Derived.Test.YthnjnpjmbabcaaaGreatVm0
import Derived.WalkLawsBesides
set_option linter.all false
open List renaming getD→γ
section
namespace VM
open Go
def Kl(P:Program)(τ:Ty)(t:TypeId):Prop:=
 ∃i,P.info? t=some i∧i.size=τ.size∧i.zero=some (bD τ τ.bS)∧i.bytes≤2048
def fP(P:Program):Ty→TypeId ⊕ (Array Field×Nat×Nat)→Prop
 | .int k,.inl t=>Kl P (.int k) t∧P.underlying t=some (.int k)
 | .bool,.inl t=>Kl P .bool t∧P.underlying t=some .bool
 | .str,.inl t=>Kl P .str t∧P.underlying t=some .string
 | .slice e,.inl t=>Kl P (.slice e) t∧ ∃e',P.underlying t=some (.slice e')∧fP P e (.inl e')
 | .arr n e,.inl t=>Kl P (.arr n e) t∧ ∃e',P.underlying t=some (.array n e')∧fP P e (.inl e')
 | .unit,.inl t=>Kl P .unit t∧ ∃fs,P.underlying t=some (.struct fs)∧fs.size=0
 | .unit,.inr (fs,n,_)=>fs.size=n
 | .pair a b,.inl t=>Kl P (.pair a b) t∧ ∃fs f,P.underlying t=some (.struct fs)∧fs[0]? =some f∧f.offset=0∧fP P a (.inl f.type)∧fP P b (.inr (fs,1,a.size))
 | .pair a b,.inr (fs,n,off)=> ∃f,fs[n]? =some f∧f.offset=off∧fP P a (.inl f.type)∧fP P b (.inr (fs,n+1,off+a.size))
 |_,.inr _=>False
def jX(P:Program)(τ:Ty)(t:TypeId):Prop:=fP P τ (.inl t)
theorem jX.base{P:Program}{τ:Ty}{t:TypeId}(h:jX P τ t):Kl P τ t:=by
 unfold jX at h;cases τ<;>simp only[fP]at h<;>exact h.1
theorem jX.int{P:Program}{k:IntKind}{t:TypeId}(h:jX P (.int k) t):P.underlying t=some (.int k):=by simp only[jX,fP]at h;exact h.2
theorem jX.bool{P:Program}{t:TypeId}(h:jX P .bool t):P.underlying t=some .bool:=by simp only[jX,fP]at h;exact h.2
theorem jX.str{P:Program}{t:TypeId}(h:jX P .str t):P.underlying t=some .string:=by simp only[jX,fP]at h;exact h.2
theorem jX.slice{P:Program}{e:Ty}{t:TypeId}(h:jX P (.slice e) t): ∃e',P.underlying t=some (.slice e')∧jX P e e':=by simp only[jX,fP]at h;exact h.2
theorem jX.arr{P:Program}{n:Nat}{e:Ty}{t:TypeId}(h:jX P (.arr n e) t): ∃e',P.underlying t=some (.array n e')∧jX P e e':=by simp only[jX,fP]at h;exact h.2
theorem jX.isSome{P:Program}{τ:Ty}{t:TypeId}(h:jX P τ t):(P.underlying t).isSome=true:=by
 unfold jX at h
 cases τ<;>simp only[fP]at h
 ·simp[h.2]
 ·simp[h.2]
 ·simp[h.2]
 ·obtain⟨_,e',h',_⟩:=h;simp[h']
 ·obtain⟨_,e',h',_⟩:=h;simp[h']
 ·obtain⟨_,e',f,h',_⟩:=h;simp[h']
 ·obtain⟨_,e',h',_⟩:=h;simp[h']
inductive CS:(τ:Ty)→τ.den→Nat→(υ:Ty)→υ.den→Nat→Prop where
 |here {a b:Ty} (x:(Ty.pair a b).den):CS (.pair a b) x 0 a x.1 0
 |there {a b:Ty} (x:(Ty.pair a b).den) {n:Nat} {υ:Ty} {y:υ.den} {o:Nat} (h:CS b x.2 n υ y o):CS (.pair a b) x (n+1) υ y (a.size+o)
theorem pd{α:Type}{r:α}: ∀{τ:Ty} {x:τ.den} {n:Nat} {k:(υ:Ty)→υ.den→Option α},uV τ x n k=some r→ ∃υ y o,CS τ x n υ y o∧k υ y=some r
 | .pair a b,x,0,k,h=>⟨a,x.1,0,.here x,h⟩
 | .pair a b,x,n+1,k,h=>by
  obtain⟨υ,y,o,hf,hk⟩:=pd (τ:=b) (x:=x.2) (n:=n) (k:=k) h
  exact⟨υ,y,_,.there x hf,hk⟩
 | .int _,_,_,_,h| .bool,_,_,_,h| .str,_,_,_,h| .slice _,_,_,_,h| .unit,_,_,_,h| .arr _ _,_,_,_,h=>by simp[uV]at h
theorem CS.bound{τ:Ty}{x:τ.den}{n:Nat}{υ:Ty}{y:υ.den}{o:Nat}(h:CS τ x n υ y o):o+υ.size≤τ.size:=by
 induction h with
 |here x=>simp[Ty.size]
 |there x h ih=>simp only[Ty.size];omega
theorem CS.rd{w:World}{M:Nat→Prop}{τ:Ty}{x:τ.den}{n:Nat}{υ:Ty}{y:υ.den}{o:Nat}(h:CS τ x n υ y o):
  ∀{cs:List Value},Rd w M τ cs x→Rd w M υ ((cs.drop o).take υ.size) y:=by
 induction h with
 |here x=>
  intro cs hr
  simp only[Rd]at hr
  obtain⟨c1,c2,rfl,h1,_⟩:=hr
  rw[c9,wI h1.length];exact h1
 |there x h ih=>
  intro cs hr
  simp only[Rd]at hr
  obtain⟨c1,c2,rfl,h1,h2⟩:=hr
  rw[←ji,lH h1.length]
  exact ih h2
theorem fP.gr{P:Program}{τ:Ty}{x:τ.den}{m:Nat}{υ:Ty}{y:υ.den}{o:Nat}(h:CS τ x m υ y o):
  ∀{fs:Array Field} {n off:Nat},fP P τ (.inr (fs,n,off))→ ∃f,fs[n+m]? =some f∧f.offset=off+o∧jX P υ f.type:=by
 induction h with
 |here x=>
  intro fs n off hl
  simp only[fP]at hl
  obtain⟨f,hf,ho,ha,_⟩:=hl
  exact⟨f,hf,by simpa using ho,ha⟩
 |there x h ih=>
  intro fs n off hl
  simp only[fP]at hl
  obtain⟨f,hf,ho,_,hb⟩:=hl
  obtain⟨f',yx,ho',HZ⟩:=ih hb
  exact⟨f',by rw[←yx];congr 1;omega,ω,HZ⟩
theorem jX.gr{P:Program}{τ:Ty}{t:TypeId}{x:τ.den}{m:Nat}{υ:Ty}{y:υ.den}{o:Nat}(hl:jX P τ t)(h:CS τ x m υ y o):
  ∃fs f,P.underlying t=some (.struct fs)∧fs[m]? =some f∧f.offset=o∧jX P υ f.type:=by
 unfold jX at hl
 cases h with
 |here x=>
  simp only[fP]at hl
  obtain⟨_,fs,f,hu,hf,ho,ha,_⟩:=hl
  exact⟨fs,f,hu,hf,ho,ha⟩
 |there x h=>
  simp only[fP]at hl
  obtain⟨_,fs,f,hu,hf,ho,_,hb⟩:=hl
  obtain⟨f',yx,ho',HZ⟩:=fP.gr h hb
  exact⟨fs,f',hu,by rw[←yx];congr 1;omega,ω,HZ⟩
inductive Km:List Step→(τ:Ty)→τ.den→(υ:Ty)→υ.den→Nat→Prop where
 |nil {τ:Ty} (x:τ.den):Km [] τ x τ x 0
 |gr {p:List Step} {τ υ σ:Ty} {x:τ.den} {n o:Nat} {y:υ.den} {z:σ.den} {q:Nat} (h:CS τ x n υ y o) (r:Km p υ y σ z q):Km (.gr n::p) τ x σ z (o+q)
 |idx {p:List Step} {n:Nat} {e σ:Ty} {x:(Ty.arr n e).den} {i:Nat} {z:σ.den} {q:Nat} (r:Km p e (γ x i e.zero) σ z q):Km (.idx i::p) (.arr n e) x σ z (i*e.size+q)
theorem ko{α:Type}{r:α}: ∀{p:List Step} {τ:Ty} {x:τ.den} {k:(υ:Ty)→υ.den→Option α},Am p τ x k=some r→ ∃υ y o,Km p τ x υ y o∧k υ y=some r
 |[],τ,x,k,h=>⟨τ,x,0,.nil x,h⟩
 | .gr n::p,τ,x,k,h=>by
  obtain⟨υ,y,o,hf,h'⟩:=pd (h:uV τ x n _=some r)
  obtain⟨σ,z,q,hp,hk⟩:=ko h'
  exact⟨σ,z,_,.gr hf hp,hk⟩
 | .idx i::p,τ,x,k,h=>by
  cases τ with
  |arr n e=>
   obtain⟨σ,z,q,hp,hk⟩:=ko (p:=p) (τ:=e) (x:=γ x i e.zero) (k:=k) h
   exact⟨σ,z,_,.idx hp,hk⟩
  |_=>simp[Am,agN]at h
def sA:Ty→Nat→Ty
 | .pair a b,n=>match n with|0=>a|n+1=>sA b n
 |τ,_=>τ
def fF:Ty→Nat→Nat
 | .pair a b,n=>match n with|0=>0|n+1=>a.size+fF b n
 |_,_=>0
def elT:Ty→Ty
 | .arr _ e=>e
 |τ=>τ
def Im:List Step→Ty→Ty
 |[],τ=>τ
 | .gr n::p,τ=>Im p (sA τ n)
 | .idx _::p,τ=>Im p (elT τ)
def cn:List Step→Ty→Nat
 |[],_=>0
 | .gr n::p,τ=>fF τ n+cn p (sA τ n)
 | .idx i::p,τ=>i*(elT τ).size+cn p (elT τ)
def yz:List Step→Ty→Prop
 |[],_=>True
 | .gr n::p,τ=>yz p (sA τ n)
 | .idx i::p,τ=>(∃n e,τ= .arr n e∧i<n)∧yz p (elT τ)
theorem CS.eq{τ:Ty}{x:τ.den}{n:Nat}{υ:Ty}{y:υ.den}{o:Nat}(h:CS τ x n υ y o):υ=sA τ n∧o=fF τ n:=by
 induction h with
 |here x=>exact⟨rfl,rfl⟩
 |there x h ih=>obtain⟨rfl,rfl⟩:=ih;exact⟨rfl,rfl⟩
theorem Km.eq{p:List Step}{τ:Ty}{x:τ.den}{υ:Ty}{y:υ.den}{o:Nat}(h:Km p τ x υ y o):υ=Im p τ∧o=cn p τ:=by
 induction h with
 |nil x=>exact⟨rfl,rfl⟩
 |gr h r ih=>
  obtain⟨h1,h2⟩:=h.eq
  obtain⟨h3,h4⟩:=ih
  subst h1 h2 h3 h4
  exact⟨rfl,rfl⟩
 |idx r ih=>
  obtain⟨h3,h4⟩:=ih
  subst h3 h4
  exact⟨rfl,rfl⟩
theorem agS(p q:List Step): ∀τ,Im (p++q) τ=Im q (Im p τ):=by
 induction p with
 |nil=>intro τ;rfl
 |cons s p ih=>intro τ;cases s<;>simp[Im,ih]
theorem sS(p q:List Step): ∀τ,cn (p++q) τ=cn p τ+cn q (Im p τ):=by
 induction p with
 |nil=>intro τ;simp[cn,Im]
 |cons s p ih=>intro τ;cases s<;>simp[cn,Im,ih,o6]
theorem sT(p q:List Step): ∀τ,yz (p++q) τ↔yz p τ∧yz q (Im p τ):=by
 induction p with
 |nil=>intro τ;simp[yz,Im]
 |cons s p ih=>intro τ;cases s<;>simp[yz,Im,ih,and_assoc]
theorem kT{α:Type}(l:List α)(i:Nat)(d:α)(h:i<l.length):l.getD i d=l[i]:=by simp[γ,bo h]
theorem Ap{α:Type}(n:Nat): ∀(l:List (List α)) (i:Nat) (h:i<l.length),(∀j (hj:j<l.length),l[j].length=n)→(l.flatten.drop (i*n)).take n=l[i]
 |a::l,0,_,hn=>by
  have:=hn 0 (by simp)
  simp only[zL]at this
  simp[←this]
 |a::l,i+1,h,hn=>by
  have h0:=hn 0 (by simp)
  simp only[zL]at h0
  rw[zW,dR,kg,Nat.add_comm (i*n) n,←ji,lH h0]
  exact Ap n l i (by simpa using h) (λj hj=>hn (j+1) (by simp;omega))
theorem Rd.idx{w:World}{M:Nat→Prop}{n:Nat}{e:Ty}{cs:List Value}{x:(Ty.arr n e).den}(h:Rd w M (.arr n e) cs x){i:Nat}(hi:i<n):
  Rd w M e ((cs.drop (i*e.size)).take e.size) (γ x i e.zero):=by
 simp only[Rd]at h
 obtain⟨hn,Tm,hc,rfl,hr⟩:=h
 rw[Ap e.size Tm i ω (λj hj=>(hr j ω hj).length),kT x i e.zero ω]
 exact hr i ω ω
theorem Km.bound{p:List Step}{τ:Ty}{x:τ.den}{υ:Ty}{y:υ.den}{o:Nat}(h:Km p τ x υ y o):yz p τ→o+υ.size≤τ.size:=by
 induction h with
 |nil x=>intro _;simp
 |gr h r ih=>
  intro hi
  obtain⟨h1,h2⟩:=h.eq
  subst h1
  have:=ih hi
  have:=h.bound
  omega
 | @idx p n e σ x i z q r ih=>
  intro hi
  obtain⟨⟨n',e',he,mi⟩,mz⟩:=hi
  cases he
  have:=ih mz
  have h2:(i+1)*e.size≤n*e.size:=jh _ mi
  rw[dR]at h2
  simp only[Ty.size]
  omega
theorem Km.rd{w:World}{M:Nat→Prop}{p:List Step}{τ:Ty}{x:τ.den}{υ:Ty}{y:υ.den}{o:Nat}(h:Km p τ x υ y o):
  yz p τ→ ∀{cs:List Value},Rd w M τ cs x→Rd w M υ ((cs.drop o).take υ.size) y:=by
 induction h with
 |nil x=>intro _ cs hr;rw[c9,gh (by rw[hr.length];exact aI _)];exact hr
 |gr h r ih=>
  intro hi cs hr
  obtain⟨h1,h2⟩:=h.eq
  subst h1
  have:=ih hi (h.rd hr)
  have hb:=Km.bound r hi
  rw[ra,ji,rf,fT ω]at this
  exact this
 | @idx p n e σ x i z q r ih=>
  intro hi cs hr
  obtain⟨⟨n',e',he,mi⟩,mz⟩:=hi
  cases he
  have:=ih mz (hr.idx mi)
  have hb:=Km.bound r mz
  rw[ra,ji,rf,fT ω]at this
  exact this
def dI{α:Type}(cs:List α)(o:Nat)(new:List α):List α:=cs.take o++new++cs.drop (o+new.length)
theorem Aq{α:Type}{a b:List α}{o:Nat}{new:List α}(h:o+new.length≤a.length):dI (a++b) o new=dI a o new++b:=by
 unfold dI
 rw[wv ω,wx ω]
 simp only[bU]
theorem xM{α:Type}{a b:List α}{o:Nat}{new:List α}:dI (a++b) (a.length+o) new=a++dI b o new:=by
 unfold dI
 rw[List.take_append,gh ω,zK,o6,List.drop_append,jN ω,zK]
 simp
theorem dv{α:Type}{a:List α}{o:Nat}{new:List α}(h:o+new.length≤a.length):(dI a o new).length=a.length:=by
 unfold dI;simp;omega
theorem EE{α:Type}{a:List α}{o i n:Nat}{new:List α}(h:i+n≤o∨o+new.length≤i)(hl:o+new.length≤a.length):((dI a o new).drop i).take n=(a.drop i).take n:=by
 apply wG
 intro j
 simp only[mf,mg]
 split
 ·rename_i hj
  unfold dI
  rcases h with h|h
  ·rw[bU,qj (by simp;omega),mf,ak ω]
  ·rw[oJ (by simp;omega)]
   simp only[aX,bE,fT (show o≤a.length by omega),mg]
   congr 1;omega
 ·rfl
theorem agT{α:Type}{a:List α}{o:Nat}{new:List α}(hl:o+new.length≤a.length):((dI a o new).drop o).take new.length=new:=by
 unfold dI
 rw[bU,lH (by simp;omega),wI rfl]
theorem w4{α:Type}{l:List α}{o:Nat}{u:α}(h:l[o]? =some u):dI l o [u]=l:=by
 obtain⟨dU,rfl⟩:=sN.1 h
 unfold dI
 simp
theorem xN{α:Type}{l:List α}{o:Nat}{u:α}(h:o<l.length):(dI l o [u])[o]? =some u:=by
 unfold dI
 rw[bU,oJ (by simp;omega)]
 simp[fT (Nat.le_of_lt h)]
theorem kq{τ:Ty}: ∀{n:Nat} {a:Ty},yr τ n=some a→ ∀x:τ.den,∃y o,CS τ x n a y o:=by
 induction τ with
 |pair a b _ VI=>
  intro n c h x
  cases n with
  |zero=>cases h;exact⟨_,_,.here x⟩
  |succ n=>
   obtain⟨y,o,hf⟩:=VI (n:=n) (a:=c) h x.2
   exact⟨y,_,.there x hf⟩
 |_=>intro n c h;simp[yr]at h
theorem tZ: ∀{p:List Step} {τ υ:Ty},eR p τ υ=true→ ∀x:τ.den,∃y o,Km p τ x υ y o
 |[],τ,υ,h,x=>by
  have h:=bl h
  subst h
  exact⟨x,0,.nil x⟩
 | .gr n::p,τ,υ,h,x=>by
  unfold eR at h
  split at h
  ·rename_i a ha
   obtain⟨y,o,hf⟩:=kq ha x
   obtain⟨z,q,hp⟩:=tZ h y
   exact⟨z,_,.gr hf hp⟩
  ·cases h
 | .idx _::_,_,_,h,_=>by simp[eR]at h
theorem kU: ∀{p:List Step} {τ υ:Ty},eR p τ υ=true→yz p τ∧Im p τ=υ
 |[],τ,υ,h=>⟨trivial,bl h⟩
 | .gr n::p,τ,υ,h=>by
  have h0:=h
  unfold eR at h
  split at h
  ·rename_i a ha
   obtain⟨y,o,hf⟩:=kq ha τ.zero
   obtain⟨h1,h2⟩:=kU h
   have:=hf.eq.1
   subst this
   exact⟨h1,h2⟩
  ·cases h
 | .idx _::_,_,_,h=>by simp[eR]at h
theorem y5: ∀{p q:List Step},Ii p q=true→p=q
 |[],[],_=>rfl
 | .gr a::p,.gr b::q,h=>by
  simp only[Ii,bQ]at h
  rw[eK h.1,y5 h.2]
 |[],_::_,h| .gr _::_,[],h| .idx _::_,_,h| .gr _::_,.idx _::_,h=>by simp[Ii]at h
theorem CS.apart{τ:Ty}{x:τ.den}{n:Nat}{υ:Ty}{y:υ.den}{o:Nat}(h:CS τ x n υ y o): ∀{x':τ.den} {n':Nat} {υ':Ty} {y':υ'.den} {o':Nat},CS τ x' n' υ' y' o'→n≠n'→o+υ.size≤o'∨o'+υ'.size≤o:=by
 induction h with
 |here x=>
  intro x' n' υ' y' o' h' ij
  cases h' with
  |here=>exact absurd rfl ij
  |there _ h'=>left;omega
 |there x h ih=>
  intro x' n' υ' y' o' h' ij
  cases h' with
  |here=>right;omega
  |there _ h'=>rcases ih h' (λe=>ij (by rw[e]))with h1|h1<;>omega
theorem Km.apart{p:List Step}{τ:Ty}{x:τ.den}{υ:Ty}{y:υ.den}{o:Nat}(h:Km p τ x υ y o):yz p τ→ ∀{q:List Step} {e:Ty},eR q τ (.slice e)=true→yq p q=false→cn q τ<o∨o+υ.size≤cn q τ:=by
 induction h with
 |nil x=>intro _ q e _ h;simp[yq]at h
 | @gr p τ υ σ x n o y z q hf r ih=>
  intro hi q' e hq hp
  obtain⟨h1,h2⟩:=hf.eq
  subst h1 h2
  cases q' with
  |nil=>
   have:=bl hq
   subst this
   cases hf
  |cons s q'=>
   cases s with
   |idx i=>simp[eR]at hq
   |gr m=>
    unfold eR at hq
    split at hq
    ·rename_i a ha
     obtain⟨y',o',yx⟩:=kq ha x
     obtain⟨h3,h4⟩:=yx.eq
     subst h3 h4
     have hb:=r.bound hi
     obtain⟨h5,h6⟩:=kU hq
     obtain⟨z',o2,H4⟩:=tZ hq y'
     have dj:=H4.bound h5
     have ho2:=H4.eq.2
     subst ho2
     simp only[cn]
     by_cases hnm:n=m
     ·subst hnm
      have EF:yq p q'=false:=by
       simp only[yq,Bool.and_eq_false_iff]at hp
       rcases hp with hp|hp
       ·rw[o7]at hp;cases hp
       ·exact hp
      rcases ih hi hq EF with h7|h7<;>omega
     ·rcases hf.apart yx hnm with h7|h7
      ·right;omega
      ·left
       have:1≤(Ty.slice e).size:=aI _
       omega
    ·cases hq
 | @idx p n e' σ x i z q r ih=>
  intro hi q' e hq hp
  cases q' with
  |nil=>have:=bl hq;cases this
  |cons s q'=>
   cases s with
   |idx i=>simp[eR]at hq
   |gr m=>simp[eR,yr]at hq
def dQ:Value→Option Nat
 | .pointer (some a)=>some a.block
 | .slice (some a) _ cap=>if cap=0 then none else some a.block
 |_=>none
def aW.mut:aW→Prop
 | .obj _ _| .own _ _| .fv _ _ _ _=>True
 |_=>False
def ER(w:World)(M:Nat→Prop)(v:Value):aW→Prop
 | .obj τ x=> ∃b cs t,v= .pointer (some ⟨b,0,none⟩)∧w.heap[b]? =some (.cells cs t (0,0))∧M b∧Rd w M τ cs.toList x
 | .fv τ x p _=> ∃b cs t jB u,v= .pointer (some ⟨b,0,none⟩)∧w.heap[b]? =some (.cells cs t (0,0))∧M b∧Rd w M τ jB x∧cs.toList=dI jB (cn p τ) [u]∧u.oneCell'=true∧ ∃e,eR p τ (.slice e)=true
 | .own e l=>(l=[]∧ ∃a,v= .slice a 0 0)∨
  ∃b cs t cap,v= .slice (some ⟨b,0,none⟩) l.length cap∧w.heap[b]? =some (.cells cs t (0,0))∧M b∧0<cap∧l.length≤cap∧cap≤maxLen∧cs.size=cap*e.size∧
   ∀i (h:i<l.length),Rd w M e ((cs.toList.drop (i*e.size)).take e.size) l[i]
 | .oN e l=>Rd w M (.slice e) [v] l∧((l=[]∧ ∃a n c,v= .slice a n c)∨ ∃b n c,v= .slice (some ⟨b,0,none⟩) n c)
 | .eU _ _ _=>True
 | .gone=>True
def AR(v:Value)(p:List Step)(u:Value):aW→Prop
 | .obj τ _| .fv τ _ _ _=>yz p τ∧ ∃b,v= .pointer (some ⟨b,0,none⟩)∧u= .pointer (some ⟨b,cn p τ,none⟩)
 | .own e l| .oN e l=> ∃i q,p= .idx i::q∧i<l.length∧yz q e∧ ∃b n c,v= .slice (some ⟨b,0,none⟩) n c∧u= .pointer (some ⟨b,i*e.size+cn q e,none⟩)
 | .eU _ l _=> ∃i,p=[.idx i]∧i<l.length∧ ∃b n c,v= .slice (some ⟨b,0,none⟩) n c∧u= .pointer (some ⟨b,i,none⟩)
 | .gone=> ∃a,u= .pointer (some a)
def uZ(τ:Ty)(n:Nat):Bool:=match yr τ n with
 |some (.slice _)=>true
 |_=>false
mutual
def VR(w:World)(M:Nat→Prop)(H:Nat→Option aW)(ν:Nat→Value):bk→Value→Prop
 | .any,_=>True
 | .VF,v=>v=undef
 | .val τ x,v=>V w M τ v x
 | .Kh τ x n,v=>V w M τ v x∧ ∃cs a,v= .agg cs∧cs.toList[fF τ n]? =some (.slice a 0 0)
 | .sub id e lo,v=>H id≠none∧ ∃a n cap,ν id= .slice a n cap∧v= .slice (if cap=lo then a else a.map (·.add (lo*e.size))) (n-lo) (cap-lo)
 | .Ij τ x n j,v=> ∃cs jB,v= .agg cs∧Rd w M τ jB x∧cs.toList=dI jB (fF τ n) [ν j]∧H j≠none∧uZ τ n=true
 | .emp,v=> ∃a,v= .slice a 0 0
 | .ref id,v=>H id≠none∧v=ν id
 | .ic id p,v=> ∃e,H id=some e∧AR (ν id) p v e
 | .rn τ x,v=> ∃b off,v= .pointer (some ⟨b,off,none⟩)∧b<w.heap.size∧ ¬M b∧ ∃cs,At w b off cs∧Rd w M τ cs x
 | .tup vs,v=> ∃us:List Value,v= .tuple us.toArray∧jk w M H ν vs us
 | .Mr f caps,v=> ∃cs:List Value,v= .func (.func f) #[] cs.toArray∧jk w M H ν caps cs
def jk(w:World)(M:Nat→Prop)(H:Nat→Option aW)(ν:Nat→Value):List bk→List Value→Prop
 |[],[]=>True
 |a::as,v::vs=>VR w M H ν a v∧jk w M H ν as vs
 |_,_=>False
end
def aW.kt:aW→aW→Prop
 | .obj τ _,.obj υ _| .obj τ _,.fv υ _ _ _| .fv τ _ _ _,.obj υ _| .fv τ _ _ _,.fv υ _ _ _=>τ=υ
 | .own e l,.own f k| .own e l,.oN f k| .oN e l,.oN f k=>e=f∧l.length=k.length
 | .eU _ l _,.eU _ k _=>l.length=k.length
 |_,.gone=>True
 |_,_=>False
structure jC(H:Nat→Option aW)(ν:Nat→Value)(H':Nat→Option aW)(ν':Nat→Value):Prop where
 gT: ∀i e,H i=some e→ ∃e',H' i=some e'∧e.kt e'
 head: ∀i,H i≠none→ν' i=ν i
theorem AR.ptr{v:Value}{p:List Step}{u:Value}{e:aW}(h:AR v p u e): ∃a,u= .pointer (some a):=by
 cases e<;>simp only[AR]at h
 ·obtain⟨_,b,_,h⟩:=h;exact⟨_,h⟩
 ·obtain⟨_,b,_,h⟩:=h;exact⟨_,h⟩
 ·obtain⟨i,q,_,_,_,b,n,c,_,h⟩:=h;exact⟨_,h⟩
 ·obtain⟨i,q,_,_,_,b,n,c,_,h⟩:=h;exact⟨_,h⟩
 ·obtain⟨i,_,_,b,n,c,_,h⟩:=h;exact⟨_,h⟩
 ·exact h
theorem AR.kt{v:Value}{p:List Step}{u:Value}{e e':aW}(h:AR v p u e)(l:e.kt e'):AR v p u e':=by
 have hp:=h.ptr
 cases e<;>cases e'<;>simp only[aW.kt]at l<;>simp only[AR]at h ⊢ <;>try exact hp
 ·subst l;exact h
 ·subst l;exact h
 ·subst l;exact h
 ·subst l;exact h
 ·obtain⟨rfl,hl⟩:=l;obtain⟨i,q,hp,hi,r⟩:=h;exact⟨i,q,hp,ω,r⟩
 ·obtain⟨rfl,hl⟩:=l;obtain⟨i,q,hp,hi,r⟩:=h;exact⟨i,q,hp,ω,r⟩
 ·obtain⟨rfl,hl⟩:=l;obtain⟨i,q,hp,hi,r⟩:=h;exact⟨i,q,hp,ω,r⟩
 ·obtain⟨i,hp,hi,r⟩:=h;exact⟨i,hp,ω,r⟩
theorem aW.kt.refl(e:aW):e.kt e:=by cases e<;>simp[aW.kt]
theorem jC.refl(H:Nat→Option aW)(ν:Nat→Value):jC H ν H ν:=⟨λ_ e h=>⟨e,h,.refl e⟩,λ_ _=>rfl⟩
mutual
theorem VR.bG{w w':World}{M M':Nat→Prop}{H H':Nat→Option aW}{ν ν':Nat→Value}(k:dP w M w' M')(g:jC H ν H' ν'):
  ∀{a:bk} {v:Value},VR w M H ν a v→VR w' M' H' ν' a v
 | .any,_,_=>by simp[VR]
 | .VF,_,h=>by simpa [VR]using h
 | .val τ x,v,h=>by simp only[VR]at h ⊢;exact h.bG k
 | .Kh τ x n,v,h=>by simp only[VR]at h ⊢;exact⟨h.1.bG k,h.2⟩
 | .sub id e lo,v,h=>by
  simp only[VR]at h ⊢
  obtain⟨h1,h2⟩:=h
  obtain⟨e,he⟩:=wy.1 h1
  obtain⟨e',sB,_⟩:=g.gT id e he
  exact⟨by simp[sB],by rw[g.head id h1];exact h2⟩
 | .Ij τ x n j,v,h=>by
  simp only[VR]at h ⊢
  obtain⟨cs,jB,h1,h2,h3,h4,h5⟩:=h
  obtain⟨e,he⟩:=wy.1 h4
  obtain⟨e',sB,_⟩:=g.gT j e he
  exact⟨cs,jB,h1,h2.bG k,by rw[g.head j h4];exact h3,by simp[sB],h5⟩
 | .emp,_,h=>by simpa [VR]using h
 | .ref id,_,h=>by
  simp only[VR]at h ⊢
  obtain⟨h1,h2⟩:=h
  obtain⟨e,he⟩:=wy.1 h1
  obtain⟨e',sB,_⟩:=g.gT id e he
  exact⟨by simp[sB],by rw[g.head id h1];exact h2⟩
 | .ic id p,_,h=>by
  simp only[VR]at h ⊢
  obtain⟨e,he,ha⟩:=h
  obtain⟨e',sB,hl⟩:=g.gT id e he
  exact⟨e',sB,by rw[g.head id (by simp[he])];exact ha.kt hl⟩
 | .rn τ x,_,h=>by
  simp only[VR]at h ⊢
  obtain⟨b,off,rfl,hb,hm,cs,ha,hr⟩:=h
  exact⟨b,off,rfl,kQ hb k.size,λh'=>hm (k.less b hb h'),cs,ha.bG (k.block b hb hm),hr.bG k⟩
 | .tup vs,_,h=>by
  simp only[VR]at h ⊢
  obtain⟨us,rfl,h⟩:=h
  exact⟨us,rfl,jk.bG k g h⟩
 | .Mr f caps,_,h=>by
  simp only[VR]at h ⊢
  obtain⟨us,rfl,h⟩:=h
  exact⟨us,rfl,jk.bG k g h⟩
theorem jk.bG{w w':World}{M M':Nat→Prop}{H H':Nat→Option aW}{ν ν':Nat→Value}(k:dP w M w' M')(g:jC H ν H' ν'):
  ∀{as:List bk} {vs:List Value},jk w M H ν as vs→jk w' M' H' ν' as vs
 |[],[],_=>by simp[jk]
 |a::as,v::vs,h=>by simp only[jk]at h ⊢;exact⟨VR.bG k g h.1,jk.bG k g h.2⟩
 |[],_::_,h=>by simp[jk]at h
 |_::_,[],h=>by simp[jk]at h
end
end VM
end
section
namespace VM
open Go
structure Ctx where
 B:Nat
 w0:World
 M0:Nat→Prop
 may:Nat→Prop
 arg:Nat→Value
structure Mem(c:Ctx)(H:Nat→Option aW)(w:World)(M:Nat→Prop)(ν:Nat→Value):Prop where
 gT: ∀i e,H i=some e→ER w M (ν i) e
 yA: ∀i j e e' b,i≠j→H i=some e→e.mut→H j=some e'→e'.mut→dQ (ν i)=some b→dQ (ν j)≠some b
 new: ∀i e b,H i=some e→e.mut→dQ (ν i)=some b→c.B≤b∨c.may b
 yv: ∀i e l b,H i=some (.own e l)→dQ (ν i)=some b→ ¬c.M0 b
 fv: ∀i τ x p j,H i=some (.fv τ x p j)→H j≠none∧ ∃b,ν i= .pointer (some ⟨b,0,none⟩)∧w.cell? ⟨b,cn p τ,none⟩=some (ν j)
 sub: ∀b,c.M0 b→M b
 y6: ∀b,M b→b<w.heap.size
 frame: ∀b,b<c.B→ ¬c.may b→w.heap[b]? =c.w0.heap[b]?
 size:c.B≤w.heap.size
 og:(∀b,c.M0 b→b<c.B)∧ ∀b,c.may b→ ¬c.M0 b
 os:w.os=c.w0.os
 tape:w.tape=c.w0.tape
 output:w.output=c.w0.output
structure Tr(c:Ctx)(H:Nat→Option aW)(w:World)(M:Nat→Prop)(ν:Nat→Value)(H':Nat→Option aW)(w':World)(M':Nat→Prop)(ν':Nat→Value):Prop where
 mem:Mem c H' w' M' ν'
 bG:dP w M w' M'
 goes:jC H ν H' ν'
theorem aW.kt.trans{a b d:aW}(h:a.kt b)(k:b.kt d):a.kt d:=by
 cases a<;>cases b<;>cases d<;>simp only[aW.kt]at h k ⊢ <;>first
  |exact h.trans k
  |exact⟨h.1.trans k.1,h.2.trans k.2⟩
theorem jC.trans{H H' H'':Nat→Option aW}{ν ν' ν'':Nat→Value}(h:jC H ν H' ν')(k:jC H' ν' H'' ν''):jC H ν H'' ν'':=by
 refine⟨λi e he=> ?_,λi hi=> ?_⟩
 ·obtain⟨e',sB,l⟩:=h.gT i e he
  obtain⟨e'',arK,l'⟩:=k.gT i e' sB
  exact⟨e'',arK,l.trans l'⟩
 ·obtain⟨e,he⟩:=wy.1 hi
  obtain⟨e',sB,_⟩:=h.gT i e he
  rw[k.head i (by simp[sB]),h.head i hi]
theorem Tr.trans{c:Ctx}{H H' H'':Nat→Option aW}{w w' w'':World}{M M' I5:Nat→Prop}{ν ν' ν'':Nat→Value}
  (h:Tr c H w M ν H' w' M' ν') (k:Tr c H' w' M' ν' H'' w'' I5 ν''):Tr c H w M ν H'' w'' I5 ν'':=
 ⟨k.mem,h.bG.trans k.bG,h.goes.trans k.goes⟩
theorem Tr.refl{c:Ctx}{H:Nat→Option aW}{w:World}{M:Nat→Prop}{ν:Nat→Value}(h:Mem c H w M ν):Tr c H w M ν H w M ν:=
 ⟨h,.refl w M,.refl H ν⟩
theorem ar(H:Nat→Option aW)(d:Nat)(v:Option aW):bc H d v d=v:=by simp[bc]
theorem av(H:Nat→Option aW){d i:Nat}(v:Option aW)(h:i≠d):bc H d v i=H i:=by
 have:Nat.beq i d=false:=by rw[←lF,wQ];exact h
 simp[bc,this]
theorem Qj(ups:ig): ∀σ:St,(σ.wS ups).H=cj σ.H ups:=by
 induction ups with
 |nil=>intro σ;rfl
 |cons u r ih=>intro σ;exact ih _
theorem Qk(ups:ig): ∀σ:St,(σ.wS ups).T=σ.T:=by
 induction ups with
 |nil=>intro σ;rfl
 |cons u r ih=>intro σ;exact ih _
theorem ed(a b:ig): ∀H,cj H (a++b)=cj (cj H a) b:=by
 induction a with
 |nil=>intro H;rfl
 |cons u r ih=>intro H;exact ih _
theorem xO{H:Nat→Option aW}{id j:Nat}{v:aW}(h:H j≠none):bc H id (some v) j≠none:=by
 by_cases hj:j=id
 ·subst hj;rw[ar];simp
 ·rw[av _ _ hj];exact h
theorem Ko{H:Nat→Option aW}{w:World}{ν:Nat→Value}(h: ∀i τ x p j,H i=some (.fv τ x p j)→H j≠none∧ ∃b,ν i= .pointer (some ⟨b,0,none⟩)∧w.cell? ⟨b,cn p τ,none⟩=some (ν j)){id:Nat}{v:aW}(hv: ∀τ x p j,v≠ .fv τ x p j):
  ∀i τ x p j,bc H id (some v) i=some (.fv τ x p j)→bc H id (some v) j≠none∧ ∃b,ν i= .pointer (some ⟨b,0,none⟩)∧w.cell? ⟨b,cn p τ,none⟩=some (ν j):=by
 intro i τ x p j hi
 by_cases bw:i=id
 ·subst bw;rw[ar]at hi;cases hi;exact absurd rfl (hv _ _ _ _)
 ·rw[av _ _ bw]at hi
  obtain⟨h1,h2⟩:=h i τ x p j hi
  exact⟨xO h1,h2⟩
theorem Tr.gone{c:Ctx}{H:Nat→Option aW}{w:World}{M:Nat→Prop}{ν:Nat→Value}(h:Mem c H w M ν)(id:Nat):Tr c H w M ν (bc H id (some .gone)) w M ν:=by
 refine⟨⟨λi e he=> ?_,λi j e e' b mj hi hm hj iS=> ?_,λi e b hi hm=> ?_,λi e l b hi=> ?_,Ko h.fv (λ_ _ _ _=>by simp),h.sub,h.y6,h.frame,h.size,h.og,h.os,h.tape,h.output⟩,.refl w M,⟨λi e he=> ?_,λ_ _=>rfl⟩⟩
 ·by_cases hid:i=id
  ·subst hid;rw[ar]at he;cases he;simp[ER]
  ·rw[av _ _ hid]at he;exact h.gT i e he
 ·by_cases hid:i=id
  ·subst hid;rw[ar]at hi;cases hi;simp[aW.mut]at hm
  ·by_cases hjd:j=id
   ·subst hjd;rw[ar]at hj;cases hj;simp[aW.mut]at iS
   ·rw[av _ _ hid]at hi;rw[av _ _ hjd]at hj;exact h.yA i j e e' b mj hi hm hj iS
 ·by_cases hid:i=id
  ·subst hid;rw[ar]at hi;cases hi;simp[aW.mut]at hm
  ·rw[av _ _ hid]at hi;exact h.new i e b hi hm
 ·by_cases hid:i=id
  ·subst hid;rw[ar]at hi;cases hi
  ·rw[av _ _ hid]at hi;exact h.yv i e l b hi
 ·by_cases hid:i=id
  ·subst hid;exact⟨.gone,ar _ _ _,by cases e<;>simp[aW.kt]⟩
  ·exact⟨e,by rw[av _ _ hid];exact he,.refl e⟩
theorem cell_of{w:World}{b:Nat}{cs:Array Value}{t:TypeId}{fz:Nat×Nat}(h:w.heap[b]? =some (.cells cs t fz))(o:Nat):w.cell? ⟨b,o,none⟩=cs[o]? :=by
 simp[World.cell?,h]
theorem At.of_block{w:World}{b:Nat}{cs:Array Value}{t:TypeId}{fz:Nat×Nat}(h:w.heap[b]? =some (.cells cs t fz))(o n:Nat):
  At w b o ((cs.toList.drop o).take n):=by
 intro j v hj
 rw[cell_of h]
 rw[mf]at hj
 split at hj
 ·rw[mg]at hj;simpa using hj
 ·cases hj
theorem lt_of_block{w:World}{b:Nat}{o:Obj}(h:w.heap[b]? =some o):b<w.heap.size:=(kP.1 h).1
theorem ER.bG{w w':World}{M M':Nat→Prop}{v:Value}(k:dP w M w' M'): ∀{e:aW},
  (e.mut→ ∀b,dQ v=some b→w'.heap[b]? =w.heap[b]? ∧M' b)→ER w M v e→ER w' M' v e
 | .obj τ x,hm,h=>by
  simp only[ER]at h ⊢
  obtain⟨b,cs,t,rfl,hb,hM,hr⟩:=h
  obtain⟨h1,h2⟩:=hm trivial b rfl
  exact⟨b,cs,t,rfl,h1.trans hb,h2,hr.bG k⟩
 | .fv τ x p j,hm,h=>by
  simp only[ER]at h ⊢
  obtain⟨b,cs,t,jB,u,rfl,hb,hM,hr,h3⟩:=h
  obtain⟨h1,h2⟩:=hm trivial b rfl
  exact⟨b,cs,t,jB,u,rfl,h1.trans hb,h2,hr.bG k,h3⟩
 | .own e l,hm,h=>by
  simp only[ER]at h ⊢
  rcases h with h|⟨b,cs,t,cap,rfl,hb,hM,hc,hl,CT,hs,hr⟩
  ·exact .inl h
  ·obtain⟨h1,h2⟩:=hm trivial b (by simp[dQ];omega)
   exact .inr ⟨b,cs,t,cap,rfl,h1.trans hb,h2,hc,hl,CT,hs,λi hi=>(hr i hi).bG k⟩
 | .oN e l,_,h=>by
  simp only[ER]at h ⊢
  exact⟨h.1.bG k,h.2⟩
 | .eU _ _ _,_,_| .gone,_,_=>by simp[ER]
theorem ER.sC{w:World}{M:Nat→Prop}{v:Value}{e:aW}(h:ER w M v e)(hm:e.mut){b:Nat}(hb:dQ v=some b):M b:=by
 cases e with
 |obj τ x=>simp only[ER]at h;obtain⟨b',cs,t,hv,dj,hM,_⟩:=h;rw[hv]at hb;simp only[dQ,eL]at hb;subst hb;exact hM
 |fv τ x p j=>simp only[ER]at h;obtain⟨b',cs,t,_,_,hv,dj,hM,_⟩:=h;rw[hv]at hb;simp only[dQ,eL]at hb;subst hb;exact hM
 |own e1 l1=>
  simp only[ER]at h
  rcases h with⟨_,a,hv⟩|⟨b',cs,t,cap,hv,dj,hM,hc,_⟩
  ·rw[hv]at hb;cases a<;>simp[dQ]at hb
  ·rw[hv]at hb;simp only[dQ]at hb;split at hb
   ·cases hb
   ·simp only[eL]at hb;subst hb;exact hM
 |oN _ _=>simp[aW.mut]at hm
 |eU _ _ _=>simp[aW.mut]at hm
 |gone=>simp[aW.mut]at hm
theorem Tr.freeze{c:Ctx}{H:Nat→Option aW}{w:World}{M:Nat→Prop}{ν:Nat→Value}(h:Mem c H w M ν){id:Nat}{e:Ty}{l:List e.den}(hid:H id=some (.own e l)):
  ∃M',Tr c H w M ν (bc H id (some (.oN e l))) w M' ν∧V w M' (.slice e) (ν id) l∧ ∀b,M' b↔(M b∧dQ (ν id)≠some b):=by
 have hk:dP w M w (λb=>M b∧dQ (ν id)≠some b):=⟨aI _,λ_ _ _=>rfl,λ_ _ h=>h.1⟩
 have he:=h.gT id _ hid
 have kd:Rd w (λb=>M b∧dQ (ν id)≠some b) (.slice e) [ν id] l:=by
  simp only[ER]at he
  simp only[Rd]
  rcases he with⟨rfl,a,hv⟩|⟨b,cs,t,cap,hv,hb,hM,hc,hl,CT,hs,hr⟩
  ·exact⟨a,0,by rw[hv];rfl,aI _,λi hi=>absurd hi (by simp)⟩
  ·refine⟨_,cap,by rw[hv],hl,λi hi=>⟨b,0,rfl,lt_of_block hb,λhm=>hm.2 (by rw[hv];simp[dQ];omega),_,?_,(hr i hi).bG hk⟩⟩
   rw[fh]
   exact At.of_block hb _ _
 refine⟨λb=>M b∧dQ (ν id)≠some b,⟨⟨λi e' hi=> ?_,λi j e1 e2 b mj hi hm hj iS=> ?_,λi e1 b hi hm=> ?_,λi e1 l1 b hi=> ?_,Ko h.fv (λ_ _ _ _=>by simp),λb hb=>⟨h.sub b hb,λhm=>h.yv id e l b hid hm hb⟩,λb hb=>h.y6 b hb.1,h.frame,h.size,h.og,h.os,h.tape,h.output⟩,hk,⟨λi e' hi=> ?_,λ_ _=>rfl⟩⟩,?_,λ_=>Iff.rfl⟩
 ·by_cases bw:i=id
  ·subst bw;rw[ar]at hi;cases hi
   simp only[ER]
   refine⟨kd,?_⟩
   simp only[ER]at he
   rcases he with⟨rfl,a,hv⟩|⟨b,cs,t,cap,hv,_⟩
   ·exact .inl ⟨rfl,a,0,0,hv⟩
   ·exact .inr ⟨b,_,cap,hv⟩
  ·rw[av _ _ bw]at hi
   refine(h.gT i e' hi).bG hk (λhm b hb=>⟨rfl,?_,?_⟩)
   ·exact(h.gT i e' hi).sC hm hb
   ·exact h.yA i id e' (.own e l) b bw hi hm hid trivial hb
 ·by_cases bw:i=id
  ·subst bw;rw[ar]at hi;cases hi;simp[aW.mut]at hm
  ·by_cases CU:j=id
   ·subst CU;rw[ar]at hj;cases hj;simp[aW.mut]at iS
   ·rw[av _ _ bw]at hi;rw[av _ _ CU]at hj;exact h.yA i j e1 e2 b mj hi hm hj iS
 ·by_cases bw:i=id
  ·subst bw;rw[ar]at hi;cases hi;simp[aW.mut]at hm
  ·rw[av _ _ bw]at hi;exact h.new i e1 b hi hm
 ·by_cases bw:i=id
  ·subst bw;rw[ar]at hi;cases hi
  ·rw[av _ _ bw]at hi;exact h.yv i e1 l1 b hi
 ·by_cases bw:i=id
  ·subst bw;rw[hid]at hi;cases hi;exact⟨_,ar _ _ _,rfl,rfl⟩
  ·exact⟨e',by rw[av _ _ bw];exact hi,.refl e'⟩
 ·unfold V;rw[ah (by simp[Ty.isAgg])];exact kd
theorem Tr.fix{c:Ctx}{H:Nat→Option aW}{w:World}{M:Nat→Prop}{ν:Nat→Value}(h:Mem c H w M ν){id:Nat}{τ:Ty}{x:τ.den}(hid:H id=some (.obj τ x)):
  ∃M' b,Tr c H w M ν (bc H id (some .gone)) w M' ν∧ν id= .pointer (some ⟨b,0,none⟩)∧b<w.heap.size∧ ¬M' b∧ ∃cs,At w b 0 cs∧Rd w M' τ cs x:=by
 have he:=h.gT id _ hid
 simp only[ER]at he
 obtain⟨b0,cs,t,hv,hb,hM,hr⟩:=he
 have wu:dQ (ν id)=some b0:=by rw[hv];rfl
 have hk:dP w M w (λb=>M b∧b≠b0):=⟨aI _,λ_ _ _=>rfl,λ_ _ h=>h.1⟩
 have FH: ¬c.M0 b0:=λhm=>(h.new id _ b0 hid trivial wu).elim (λhB=>by have:=h.og.1 b0 hm;omega) (λhB=>h.og.2 b0 hB hm)
 refine⟨λb=>M b∧b≠b0,b0,⟨⟨λi e' hi=> ?_,λi j e1 e2 b mj hi hm hj iS=> ?_,λi e1 b hi hm=> ?_,λi e1 l1 b hi=> ?_,Ko h.fv (λ_ _ _ _=>by simp),λb dj=>⟨h.sub b dj,λe=>FH (e▸dj)⟩,λb dj=>h.y6 b dj.1,h.frame,h.size,h.og,h.os,h.tape,h.output⟩,hk,⟨λi e' hi=> ?_,λ_ _=>rfl⟩⟩,hv,lt_of_block hb,λhm=>hm.2 rfl,cs.toList,?_,hr.bG hk⟩
 ·by_cases bw:i=id
  ·subst bw;rw[ar]at hi;cases hi;simp[ER]
  ·rw[av _ _ bw]at hi
   refine(h.gT i e' hi).bG hk (λhm b dj=>⟨rfl,?_,?_⟩)
   ·exact(h.gT i e' hi).sC hm dj
   ·intro e
    exact h.yA i id e' (.obj τ x) b bw hi hm hid trivial dj (by rw[wu,e])
 ·by_cases bw:i=id
  ·subst bw;rw[ar]at hi;cases hi;simp[aW.mut]at hm
  ·by_cases CU:j=id
   ·subst CU;rw[ar]at hj;cases hj;simp[aW.mut]at iS
   ·rw[av _ _ bw]at hi;rw[av _ _ CU]at hj;exact h.yA i j e1 e2 b mj hi hm hj iS
 ·by_cases bw:i=id
  ·subst bw;rw[ar]at hi;cases hi;simp[aW.mut]at hm
  ·rw[av _ _ bw]at hi;exact h.new i e1 b hi hm
 ·by_cases bw:i=id
  ·subst bw;rw[ar]at hi;cases hi
  ·rw[av _ _ bw]at hi;exact h.yv i e1 l1 b hi
 ·by_cases bw:i=id
  ·subst bw;rw[hid]at hi;cases hi;exact⟨_,ar _ _ _,trivial⟩
  ·exact⟨e',by rw[av _ _ bw];exact hi,.refl e'⟩
 ·have:=At.of_block hb 0 cs.toList.length
  rwa [c9,fD]at this
theorem Ar(w:World)(o:Obj):(w.alloc o).heap[w.heap.size]? =some o:=by
 show(w.heap.push o)[w.heap.size]? =some o
 simp
theorem kV(w:World)(o:Obj){i:Nat}(h:i<w.heap.size):(w.alloc o).heap[i]? =w.heap[i]? :=by
 show(w.heap.push o)[i]? =w.heap[i]?
 rw[Array.getElem?_push,ah (Nat.ne_of_lt h)]
theorem size_alloc(w:World)(o:Obj):(w.alloc o).heap.size=w.heap.size+1:=by
 show(w.heap.push o).size=_
 simp
def updν(ν:Nat→Value)(d:Nat)(v:Value):Nat→Value:=λi=>if i=d then v else ν i
theorem nq{c:Ctx}{H:Nat→Option aW}{w w':World}{M:Nat→Prop}{ν ν':Nat→Value}(h:Mem c H w M ν){H':Nat→Option aW}
  (hν: ∀i,H i≠none→ν' i=ν i) (hn: ∀i,H i≠none→H' i≠none)
  (hi: ∀i τ x p j,H' i=some (.fv τ x p j)→(H i=some (.fv τ x p j)∧ ∀b,ν i= .pointer (some ⟨b,0,none⟩)→w'.heap[b]? =w.heap[b]?)∨(H' j≠none∧ ∃b,ν' i= .pointer (some ⟨b,0,none⟩)∧w'.cell? ⟨b,cn p τ,none⟩=some (ν' j))):
  ∀i τ x p j,H' i=some (.fv τ x p j)→H' j≠none∧ ∃b,ν' i= .pointer (some ⟨b,0,none⟩)∧w'.cell? ⟨b,cn p τ,none⟩=some (ν' j):=by
 intro i τ x p j he
 rcases hi i τ x p j he with⟨h1,hb⟩|h1
 ·obtain⟨h2,b,h3,h4⟩:=h.fv i τ x p j h1
  refine⟨hn j h2,b,by rw[hν i (by rw[h1];simp)];exact h3,?_⟩
  rw[hν j h2,World.cell?_of_block (w:=w) (hb b h3)]
  exact h4
 ·exact h1
theorem u5{H:Nat→Option aW}{id:Nat}{v:aW}: ∀i,H i≠none→bc H id (some v) i≠none:=λ_ h=>xO h
theorem As{H:Nat→Option aW}{id:Nat}{v:aW}(hv: ∀τ x p j,v≠ .fv τ x p j){i:Nat}{τ:Ty}{x:τ.den}{p:List Step}{j:Nat}(h:bc H id (some v) i=some (.fv τ x p j)):H i=some (.fv τ x p j):=by
 by_cases bw:i=id
 ·subst bw;rw[ar]at h;cases h;exact absurd rfl (hv _ _ _ _)
 ·rw[av _ _ bw]at h;exact h
theorem Tr.alloc{c:Ctx}{H:Nat→Option aW}{w:World}{M:Nat→Prop}{ν:Nat→Value}(h:Mem c H w M ν){id:Nat}(hid:H id=none)(o:Obj)(v:Value)(e:aW)(hm:e.mut)(I6: ∀τ x p j,e≠ .fv τ x p j)
  (hb:dQ v=none∨dQ v=some w.heap.size) (FI:ER (w.alloc o) (λb=>M b∨b=w.heap.size) v e):
  Tr c H w M ν (bc H id (some e)) (w.alloc o) (λb=>M b∨b=w.heap.size) (updν ν id v):=by
 have hk:dP w M (w.alloc o) (λb=>M b∨b=w.heap.size):=
  ⟨by rw[size_alloc];omega,λb hb _=>kV w o hb,λb hb h'=>h'.resolve_right ω⟩
 have hν: ∀i,i≠id→updν ν id v i=ν i:=λi hi=>by simp[updν,hi]
 have hνs:updν ν id v id=v:=by simp[updν]
 have dU: ∀i e' b,H i=some e'→e'.mut→dQ (ν i)=some b→b<w.heap.size:=λi e' b hi iS dj=>h.y6 b ((h.gT i e' hi).sC iS dj)
 refine⟨⟨λi e' hi=> ?_,λi j e1 e2 b mj hi kO hj qN=> ?_,λi e1 b hi kO=> ?_,λi e1 l1 b hi=> ?_,nq h (λi hi=>hν i (λe=>hi (e▸hid))) u5 (λi τ x p j hi=> .inl ⟨As I6 hi,λb hb=>kV w o (dU i _ b (As I6 hi) trivial (by rw[hb];rfl))⟩),λb hb=> .inl (h.sub b hb),λb dj=> ?_,λb dA qO=> ?_,?_,h.og,h.os,h.tape,h.output⟩,hk,⟨λi e' hi=> ?_,λi hi=> ?_⟩⟩
 ·by_cases bw:i=id
  ·subst bw;rw[ar]at hi;cases hi;rw[hνs];exact FI
  ·rw[av _ _ bw]at hi;rw[hν i bw]
   exact(h.gT i e' hi).bG hk λiS b dj=>⟨kV w o (dU i e' b hi iS dj),.inl ((h.gT i e' hi).sC iS dj)⟩
 ·by_cases bw:i=id
  ·subst bw;rw[ar]at hi;cases hi;rw[hνs]
   intro dA
   have CU:j≠i:=dz mj
   rw[av _ _ CU]at hj;rw[hν j CU]
   intro qO
   have:=dU j e2 b hj qN qO
   rcases hb with hb|hb<;>rw[hb]at dA<;>simp at dA
   omega
  ·rw[av _ _ bw]at hi;rw[hν i bw]
   by_cases CU:j=id
   ·subst CU;rw[hνs]
    intro dA qO
    have:=dU i e1 b hi kO dA
    rcases hb with hb|hb<;>rw[hb]at qO<;>simp at qO
    omega
   ·rw[av _ _ CU]at hj;rw[hν j CU];exact h.yA i j e1 e2 b mj hi kO hj qN
 ·by_cases bw:i=id
  ·subst bw;rw[hνs]
   intro dA
   rcases hb with hb|hb<;>rw[hb]at dA<;>simp at dA
   subst dA;exact .inl h.size
  ·rw[av _ _ bw]at hi;rw[hν i bw];exact h.new i e1 b hi kO
 ·by_cases bw:i=id
  ·subst bw;rw[hνs]
   intro dA h0
   rcases hb with hb|hb<;>rw[hb]at dA<;>simp at dA
   have:=h.og.1 b h0
   have:=h.size
   omega
  ·rw[av _ _ bw]at hi;rw[hν i bw];exact h.yv i e1 l1 b hi
 ·rw[size_alloc]
  rcases dj with dj|dj
  ·have:=h.y6 b dj;omega
  ·omega
 ·rw[kV w o (kQ dA h.size)];exact h.frame b dA qO
 ·rw[size_alloc];have:=h.size;omega
 ·by_cases bw:i=id
  ·subst bw;rw[hid]at hi;cases hi
  ·exact⟨e',by rw[av _ _ bw];exact hi,.refl e'⟩
 ·have bw:i≠id:=λe=>hi (e▸hid)
  exact hν i bw
theorem Tr.var{c:Ctx}{H:Nat→Option aW}{w:World}{M:Nat→Prop}{ν:Nat→Value}(h:Mem c H w M ν){id:Nat}(hid:H id=none)(t:TypeId){τ:Ty}{cs:Array Value}{x:τ.den}(hr:Rd w M τ cs.toList x):
  Tr c H w M ν (bc H id (some (.obj τ x))) (w.alloc (.cells cs t)) (λb=>M b∨b=w.heap.size) (updν ν id (.pointer (some ⟨w.heap.size,0,none⟩))):=by
 refine Tr.alloc h hid _ _ _ trivial (λ_ _ _ _=>by simp) (.inr rfl) ?_
 simp only[ER]
 have hk:dP w M (w.alloc (.cells cs t)) (λb=>M b∨b=w.heap.size):=
  ⟨by rw[size_alloc];omega,λb hb _=>kV w _ hb,λb hb h'=>h'.resolve_right ω⟩
 exact⟨w.heap.size,cs,t,rfl,Ar w _,.inr rfl,hr.bG hk⟩
theorem Tr.row{c:Ctx}{H:Nat→Option aW}{w:World}{M:Nat→Prop}{ν:Nat→Value}(h:Mem c H w M ν){id:Nat}(hid:H id=none)(t:TypeId){e:Ty}{cs:Array Value}{l:List e.den}{cap:Nat}
  (hl:l.length≤cap) (hm:cap≤maxLen) (hs:cs.size=cap*e.size) (hr: ∀i (hi:i<l.length),Rd w M e ((cs.toList.drop (i*e.size)).take e.size) l[i]):
  Tr c H w M ν (bc H id (some (.own e l))) (w.alloc (.cells cs t)) (λb=>M b∨b=w.heap.size) (updν ν id (.slice (some ⟨w.heap.size,0,none⟩) l.length cap)):=by
 have hk:dP w M (w.alloc (.cells cs t)) (λb=>M b∨b=w.heap.size):=
  ⟨by rw[size_alloc];omega,λb hb _=>kV w _ hb,λb hb h'=>h'.resolve_right ω⟩
 refine Tr.alloc h hid _ _ _ trivial (λ_ _ _ _=>by simp) ?_ ?_
 ·simp only[dQ];split
  ·exact .inl rfl
  ·exact .inr rfl
 ·simp only[ER]
  by_cases hc:cap=0
  ·subst hc
   have hl0:l=[]:=qg ω
   subst hl0
   exact .inl ⟨rfl,_,rfl⟩
  ·exact .inr ⟨w.heap.size,cs,t,cap,rfl,Ar w _,.inr rfl,ω,hl,hm,hs,λi hi=>(hr i hi).bG hk⟩
theorem Tr.drew{c:Ctx}{H:Nat→Option aW}{w:World}{M:Nat→Prop}{ν:Nat→Value}(h:Mem c H w M ν):Tr c H w M ν H w.drew M ν:=by
 have hk:dP w M w.drew M:=⟨aI _,λ_ _ _=>rfl,λ_ _ h=>h⟩
 exact⟨⟨λi e he=>(h.gT i e he).bG hk λhm b hb=>⟨rfl,(h.gT i e he).sC hm hb⟩,h.yA,h.new,h.yv,h.fv,h.sub,h.y6,h.frame,h.size,h.og,h.os,h.tape,h.output⟩,hk,.refl H ν⟩
theorem size_setRow(w:World)(g:Nat)(cs:Array Value):(w.setRow g cs).heap.size=w.heap.size:=by simp[World.setRow]
theorem Tr.write{c:Ctx}{H:Nat→Option aW}{w:World}{M:Nat→Prop}{ν:Nat→Value}(h:Mem c H w M ν){id:Nat}{e e':aW}(hid:H id=some e)(hm:e.mut)(iS:e'.mut)(hl:e.kt e')
  {b:Nat} (hb:dQ (ν id)=some b) {cs new:Array Value} {t:TypeId} (hg:w.heap[b]? =some (.cells cs t (0,0)))
  (FI: ∀M',dP w M (w.setRow b new) M'→M' b→ER (w.setRow b new) M' (ν id) e')
  (qp: ∀τ x p j,e'= .fv τ x p j→H j≠none∧ ∃b',ν id= .pointer (some ⟨b',0,none⟩)∧(w.setRow b new).cell? ⟨b',cn p τ,none⟩=some (ν j):=by intro _ _ _ _ h;cases h):
  Tr c H w M ν (bc H id (some e')) (w.setRow b new) M ν:=by
 have hMb:M b:=(h.gT id e hid).sC hm hb
 have hk:dP w M (w.setRow b new) M:=
  ⟨by rw[size_setRow];exact aI _,λb' _ hm=>setRow_other w b b' new (λe=>hm (e▸hMb)),λ_ _ h=>h⟩
 refine⟨⟨λi e1 hi=> ?_,λi j e1 e2 b1 mj hi kO hj qN=> ?_,λi e1 b1 hi kO=> ?_,λi e1 l1 b1 hi=> ?_,nq h (λ_ _=>rfl) u5 (λi τ x p j hi=> ?_),h.sub,λb1 dA=>by rw[size_setRow];exact h.y6 b1 dA,λb1 dA qO=> ?_,by rw[size_setRow];exact h.size,h.og,h.os,h.tape,h.output⟩,hk,⟨λi e1 hi=> ?_,λi hi=>rfl⟩⟩
 ·by_cases bw:i=id
  ·subst bw;rw[ar]at hi;cases hi;exact FI M hk hMb
  ·rw[av _ _ bw]at hi
   exact(h.gT i e1 hi).bG hk λkO b1 dA=>⟨setRow_other w b b1 new (λe'=>h.yA i id e1 e b1 bw hi kO hid hm dA (e'▸hb)),(h.gT i e1 hi).sC kO dA⟩
 ·by_cases bw:i=id
  ·subst bw;rw[ar]at hi;cases hi
   have CU:j≠i:=dz mj
   rw[av _ _ CU]at hj
   exact h.yA i j e e2 b1 mj hid hm hj qN
  ·rw[av _ _ bw]at hi
   by_cases CU:j=id
   ·subst CU;exact h.yA i j e1 e b1 mj hi kO hid hm
   ·rw[av _ _ CU]at hj;exact h.yA i j e1 e2 b1 mj hi kO hj qN
 ·by_cases bw:i=id
  ·subst bw;exact h.new i e b1 hid hm
  ·rw[av _ _ bw]at hi;exact h.new i e1 b1 hi kO
 ·by_cases bw:i=id
  ·subst bw;rw[ar]at hi;cases hi
   cases e with
   |own e0 l0=>exact h.yv i e0 l0 b1 hid
   |obj _ _=>simp[aW.kt]at hl
   |fv _ _ _ _=>simp[aW.kt]at hl
   |oN _ _=>simp[aW.mut]at hm
   |eU _ _ _=>simp[aW.mut]at hm
   |gone=>simp[aW.mut]at hm
  ·rw[av _ _ bw]at hi;exact h.yv i e1 l1 b1 hi
 ·by_cases bw:i=id
  ·subst bw;rw[ar]at hi;cases hi
   obtain⟨h1,h2⟩:=qp _ _ _ _ rfl
   exact .inr ⟨xO h1,h2⟩
  ·rw[av _ _ bw]at hi
   exact .inl ⟨hi,λb1 dA=>setRow_other w b b1 new (λe1=>h.yA i id _ e b1 bw hi trivial hid hm (by rw[dA];rfl) (e1▸hb))⟩
 ·rw[setRow_other w b b1 new]
  ·exact h.frame b1 dA qO
  ·intro hbb;subst hbb
   rcases h.new id e b1 hid hm hb with h'|h'
   ·omega
   ·exact qO h'
 ·by_cases bw:i=id
  ·subst bw;rw[hid]at hi;cases hi;exact⟨e',ar _ _ _,hl⟩
  ·exact⟨e1,by rw[av _ _ bw];exact hi,.refl e1⟩
theorem Tr.rename{c:Ctx}{H:Nat→Option aW}{w:World}{M:Nat→Prop}{ν:Nat→Value}(h:Mem c H w M ν){j id:Nat}{e e':Ty}{l:List e.den}{l':List e'.den}(hj:H j=some (.own e l))(hid:H id=none)
  {v:Value} (hb:dQ v=none∨dQ v=dQ (ν j)) (FI:ER w M v (.own e' l')):
  Tr c H w M ν (bc (bc H j (some .gone)) id (some (.own e' l'))) w M (updν ν id v):=by
 have ij:j≠id:=λe=>by rw[e,hid]at hj;cases hj
 have h1:=(Tr.gone h j).mem
 have pR:bc H j (some .gone) id=none:=by rw[av _ _ (dz ij)];exact hid
 have hν: ∀i,i≠id→updν ν id v i=ν i:=λi hi=>by simp[updν,hi]
 have hνs:updν ν id v id=v:=by simp[updν]
 refine⟨⟨λi e1 hi=> ?_,λi k e1 e2 b1 mj hi kO hk qN=> ?_,λi e1 b1 hi kO=> ?_,λi e1 l1 b1 hi=> ?_,nq h1 (λi hi=>hν i (λe=>hi (e▸pR))) u5 (λi τ x p j hi=> .inl ⟨As (λ_ _ _ _=>by simp) hi,λ_ _=>rfl⟩),h.sub,h.y6,h.frame,h.size,h.og,h.os,h.tape,h.output⟩,.refl w M,⟨λi e1 hi=> ?_,λi hi=> ?_⟩⟩
 ·by_cases bw:i=id
  ·subst bw;rw[ar]at hi;cases hi;rw[hνs];exact FI
  ·rw[av _ _ bw]at hi;rw[hν i bw];exact h1.gT i e1 hi
 ·by_cases bw:i=id
  ·subst bw;rw[ar]at hi;cases hi;rw[hνs]
   have H5:k≠i:=dz mj
   rw[av _ _ H5]at hk;rw[hν k H5]
   intro dA
   rcases hb with hb|hb
   ·rw[hb]at dA;cases dA
   ·rw[hb]at dA
    by_cases hkj:k=j
    ·subst hkj;rw[ar]at hk;cases hk;simp[aW.mut]at qN
    ·rw[av _ _ hkj]at hk;exact h.yA j k _ e2 b1 (dz hkj) hj trivial hk qN dA
  ·rw[av _ _ bw]at hi;rw[hν i bw]
   by_cases H5:k=id
   ·subst H5;rw[hνs]
    intro dA qO
    rcases hb with hb|hb
    ·rw[hb]at qO;cases qO
    ·rw[hb]at qO
     by_cases Io:i=j
     ·subst Io;rw[ar]at hi;cases hi;simp[aW.mut]at kO
     ·rw[av _ _ Io]at hi;exact h.yA j i _ e1 b1 (dz Io) hj trivial hi kO qO dA
   ·rw[av _ _ H5]at hk;rw[hν k H5];exact h1.yA i k e1 e2 b1 mj hi kO hk qN
 ·by_cases bw:i=id
  ·subst bw;rw[hνs];intro dA
   rcases hb with hb|hb
   ·rw[hb]at dA;cases dA
   ·rw[hb]at dA;exact h.new j _ b1 hj trivial dA
  ·rw[av _ _ bw]at hi;rw[hν i bw];exact h1.new i e1 b1 hi kO
 ·by_cases bw:i=id
  ·subst bw;rw[hνs];intro dA
   rcases hb with hb|hb
   ·rw[hb]at dA;cases dA
   ·rw[hb]at dA;exact h.yv j e l b1 hj dA
  ·rw[av _ _ bw]at hi;rw[hν i bw];exact h1.yv i e1 l1 b1 hi
 ·by_cases Io:i=j
  ·subst Io;exact⟨.gone,by rw[av _ _ ij,ar],by cases e1<;>simp[aW.kt]⟩
  ·have bw:i≠id:=λe=>by rw[e,hid]at hi;cases hi
   exact⟨e1,by rw[av _ _ bw,av _ _ Io];exact hi,.refl e1⟩
 ·exact hν i (λe=>hi (e▸hid))
theorem Tr.Ip{c:Ctx}{H:Nat→Option aW}{w:World}{M:Nat→Prop}{ν:Nat→Value}(h:Mem c H w M ν){id:Nat}{e e':aW}(hid:H id=some e)(hm:e.mut)(iS:e'.mut)(hl:e.kt e')(nr: ∀e0 l0,e'≠ .own e0 l0)
  (FI:ER w M (ν id) e') (qp: ∀τ x p j,e'= .fv τ x p j→H j≠none∧ ∃b',ν id= .pointer (some ⟨b',0,none⟩)∧w.cell? ⟨b',cn p τ,none⟩=some (ν j)):
  Tr c H w M ν (bc H id (some e')) w M ν:=by
 refine⟨⟨λi e1 hi=> ?_,λi j e1 e2 b1 mj hi kO hj qN=> ?_,λi e1 b1 hi kO=> ?_,λi e1 l1 b1 hi=> ?_,nq h (λ_ _=>rfl) u5 (λi τ x p j hi=> ?_),h.sub,h.y6,h.frame,h.size,h.og,h.os,h.tape,h.output⟩,.refl w M,⟨λi e1 hi=> ?_,λi hi=>rfl⟩⟩
 ·by_cases bw:i=id
  ·subst bw;rw[ar]at hi;cases hi;exact FI
  ·rw[av _ _ bw]at hi;exact h.gT i e1 hi
 ·by_cases bw:i=id
  ·subst bw;rw[ar]at hi;cases hi
   have CU:j≠i:=dz mj
   rw[av _ _ CU]at hj
   exact h.yA i j e e2 b1 mj hid hm hj qN
  ·rw[av _ _ bw]at hi
   by_cases CU:j=id
   ·subst CU;exact h.yA i j e1 e b1 mj hi kO hid hm
   ·rw[av _ _ CU]at hj;exact h.yA i j e1 e2 b1 mj hi kO hj qN
 ·by_cases bw:i=id
  ·subst bw;exact h.new i e b1 hid hm
  ·rw[av _ _ bw]at hi;exact h.new i e1 b1 hi kO
 ·by_cases bw:i=id
  ·subst bw;rw[ar]at hi;cases hi;exact absurd rfl (nr _ _)
  ·rw[av _ _ bw]at hi;exact h.yv i e1 l1 b1 hi
 ·by_cases bw:i=id
  ·subst bw;rw[ar]at hi;cases hi
   obtain⟨h1,h2⟩:=qp _ _ _ _ rfl
   exact .inr ⟨xO h1,h2⟩
  ·rw[av _ _ bw]at hi;exact .inl ⟨hi,λ_ _=>rfl⟩
 ·by_cases bw:i=id
  ·subst bw;rw[hid]at hi;cases hi;exact⟨e',ar _ _ _,hl⟩
  ·exact⟨e1,by rw[av _ _ bw];exact hi,.refl e1⟩
theorem Tr.nothing{c:Ctx}{w:World}{M:Nat→Prop}{ν:Nat→Value}{H:Nat→Option aW}(h:Mem c H w M ν){id:Nat}(hid:H id=none)(e:Ty)(ad:Option Addr):
  Tr c H w M ν (bc H id (some (.own e []))) w M (updν ν id (.slice ad 0 0)):=by
 have hν: ∀i,i≠id→updν ν id (.slice ad 0 0) i=ν i:=λi hi=>by simp[updν,hi]
 have hνs:updν ν id (.slice ad 0 0) id= .slice ad 0 0:=by simp[updν]
 have hb:dQ (.slice ad 0 0)=none:=by cases ad<;>simp[dQ]
 refine⟨⟨λi e1 hi=> ?_,λi k e1 e2 b1 mj hi kO hk qN=> ?_,λi e1 b1 hi kO=> ?_,λi e1 l1 b1 hi=> ?_,nq h (λi hi=>hν i (λe=>hi (e▸hid))) u5 (λi τ x p j hi=> .inl ⟨As (λ_ _ _ _=>by simp) hi,λ_ _=>rfl⟩),h.sub,h.y6,h.frame,h.size,h.og,h.os,h.tape,h.output⟩,.refl w M,⟨λi e1 hi=> ?_,λi hi=>hν i (λe=>hi (e▸hid))⟩⟩
 ·by_cases bw:i=id
  ·subst bw;rw[ar]at hi;cases hi;rw[hνs];simp only[ER];exact .inl ⟨trivial,ad,rfl⟩
  ·rw[av _ _ bw]at hi;rw[hν i bw];exact h.gT i e1 hi
 ·by_cases bw:i=id
  ·subst bw;rw[hνs,hb];intro h';cases h'
  ·rw[av _ _ bw]at hi;rw[hν i bw]
   by_cases H5:k=id
   ·subst H5;rw[hνs,hb];intro _ h';cases h'
   ·rw[av _ _ H5]at hk;rw[hν k H5];exact h.yA i k e1 e2 b1 mj hi kO hk qN
 ·by_cases bw:i=id
  ·subst bw;rw[hνs,hb];intro h';cases h'
  ·rw[av _ _ bw]at hi;rw[hν i bw];exact h.new i e1 b1 hi kO
 ·by_cases bw:i=id
  ·subst bw;rw[hνs,hb];intro h';cases h'
  ·rw[av _ _ bw]at hi;rw[hν i bw];exact h.yv i e1 l1 b1 hi
 ·have bw:i≠id:=λe=>by rw[e,hid]at hi;cases hi
  exact⟨e1,by rw[av _ _ bw];exact hi,.refl e1⟩
theorem bh{α:Type}{υ τ:Ty}{y:υ.den}{k:τ.den→Option α}{r:α}(h:cr υ τ y k=some r): ∃e:υ=τ,k (e▸y)=some r:=by
 unfold cr at h
 split at h
 ·rename_i e;exact⟨e,h⟩
 ·cases h
theorem dt{α:Type}{υ τ:Ty}{k:Option α}{r:α}(h:iQ υ τ k=some r):υ=τ∧k=some r:=by
 unfold iQ at h
 split at h
 ·rename_i e;exact⟨e,h⟩
 ·cases h
theorem V.slice{w:World}{M:Nat→Prop}{e:Ty}{v:Value}{l:List e.den}:V w M (.slice e) v l↔Rd w M (.slice e) [v] l:=by
 unfold V;rw[ah (by simp[Ty.isAgg])]
def Fz(H H1:Nat→Option aW):Prop:= ∀i,H1 i=H i∨ ∃e l,H i=some (.own e l)∧H1 i=some (.oN e l)
theorem Fz.refl(H:Nat→Option aW):Fz H H:=λ_=> .inl rfl
theorem Fz.none{H H1:Nat→Option aW}(h:Fz H H1){i:Nat}(hi:H i=none):H1 i=none:=by
 rcases h i with h'|⟨e,l,h',_⟩
 ·rw[h',hi]
 ·rw[hi]at h';cases h'
theorem Fz.obj{H H1:Nat→Option aW}(h:Fz H H1){i:Nat}{τ:Ty}{x:τ.den}(hi:H i=some (.obj τ x)):H1 i=some (.obj τ x):=by
 rcases h i with h'|⟨e,l,h',_⟩
 ·rw[h',hi]
 ·rw[hi]at h';cases h'
theorem BO{H:Nat→Option aW}{id:Nat}{e:Option aW}(h:H id=e):bc H id e=H:=by
 funext i
 by_cases hi:i=id
 ·subst hi;rw[ar,h]
 ·rw[av _ _ hi]
theorem ku{α:Type}{c:Ctx}{H H1:Nat→Option aW}{w:World}{M:Nat→Prop}{ν:Nat→Value}(hz:Fz H H1)(hm:Mem c H1 w M ν){a:bk}{v:Value}(hv:VR w M H1 ν a v){τ:Ty}
  {k:τ.den→List Nat→ig→Option α} {r:α} (h:mw true a H τ k=some r):
  ∃y rd ups M',k y rd ups=some r∧Tr c H1 w M ν (cj H1 ups) w M' ν∧V w M' τ v y∧Fz H (cj H1 ups)∧ ∀i,rd.contains i=false→cj H1 ups i=H1 i:=by
 unfold mw at h
 split at h
 ·
  obtain⟨e,h⟩:=bh h
  subst e
  simp only[VR]at hv
  exact⟨_,[],[],M,h,.refl hm,hv,hz,λ_ _=>rfl⟩
 ·
  obtain⟨e,h⟩:=bh h
  subst e
  simp only[VR]at hv
  exact⟨_,[],[],M,h,.refl hm,hv.1,hz,λ_ _=>rfl⟩
 ·
  split at h
  ·rename_i e k' _
   simp only[VR]at hv
   obtain⟨a,rfl⟩:=hv
   refine⟨[],[],[],M,h,.refl hm,V.slice.2 ?_,hz,λ_ _=>rfl⟩
   simp only[Rd]
   exact⟨a,0,rfl,aI _,λi hi=>absurd hi (by simp)⟩
  ·cases h
 ·rename_i id
  simp only[VR]at hv
  obtain⟨_,rfl⟩:=hv
  split at h
  ·rename_i e l hid
   obtain⟨e',h⟩:=bh h
   subst e'
   rcases hz id with h1|⟨e1,l1,h1,h2⟩
   ·rw[hid]at h1
    obtain⟨M',fG,hV,_⟩:=Tr.freeze hm h1
    refine⟨_,_,_,M',h,fG,hV,λi=> ?_,λi hi=>av _ _ (by simpa using hi)⟩
    show bc H1 id (some (.oN e l)) i=H i∨_
    by_cases hi:i=id
    ·subst hi;exact .inr ⟨e,l,hid,ar _ _ _⟩
    ·rw[av _ _ hi]
     rcases hz i with h'|⟨e2,l2,h2,h3⟩
     ·exact .inl h'
     ·exact .inr ⟨e2,l2,h2,by show bc H1 id _ i=_;rw[av _ _ hi];exact h3⟩
   ·rw[hid]at h1;cases h1
    have:=hm.gT id _ h2
    simp only[ER]at this
    refine⟨_,_,[(id,some (.oN e l))],M,h,?_,V.slice.2 this.1,?_,λi hi=>av _ _ (by simpa using hi)⟩
    ·show Tr c H1 w M ν (bc H1 id (some (.oN e l))) w M ν
     rw[BO h2];exact .refl hm
    ·show Fz H (bc H1 id (some (.oN e l)))
     rw[BO h2];exact hz
  ·rename_i e l hid
   obtain⟨e',h⟩:=bh h
   subst e'
   have h1:H1 id=some (.oN e l):=by
    rcases hz id with h1|⟨e1,l1,h1,h2⟩
    ·rw[h1,hid]
    ·rw[hid]at h1;cases h1
   have:=hm.gT id _ h1
   simp only[ER]at this
   exact⟨_,_,_,M,h,.refl hm,V.slice.2 this.1,hz,λ_ _=>rfl⟩
  ·cases h
 ·cases h
def Src(w:World)(M:Nat→Prop)(e:Ty)(v:Value)(l:List e.den):Prop:=
 ∃a cap,v= .slice a l.length cap∧ ∀i (h:i<l.length),∃b off cs,a=some ⟨b,off,none⟩∧At w b (off+i*e.size) cs∧Rd w M e cs l[i]
theorem Src.agW{w:World}{M:Nat→Prop}{e:Ty}{v:Value}{l:List e.den}(h:V w M (.slice e) v l):Src w M e v l:=by
 have h:=V.slice.1 h
 simp only[Rd,eN,eA]at h
 obtain⟨a,cap,rfl,_,hr⟩:=h
 refine⟨a,cap,rfl,λi hi=> ?_⟩
 obtain⟨b,off,ha,_,_,cs,oO,kd⟩:=hr i hi
 exact⟨b,off,cs,ha,oO,kd⟩
theorem CV{α:Type}{c:Ctx}{H:Nat→Option aW}{w:World}{M:Nat→Prop}{ν:Nat→Value}(hm:Mem c H w M ν){a:bk}{v:Value}(hv:VR w M H ν a v){e:Ty}
  {k:List e.den→List Nat→ig→Option α} {r:α} (h:mw false a H (.slice e) k=some r):
  ∃y rd,k y rd []=some r∧Src w M e v y:=by
 unfold mw at h
 split at h
 ·obtain⟨e',h⟩:=bh h
  subst e'
  simp only[VR]at hv
  exact⟨_,[],h,.agW hv⟩
 ·obtain⟨e',h⟩:=bh h
  subst e'
  simp only[VR]at hv
  exact⟨_,[],h,.agW hv.1⟩
 ·have h:k [] [] []=some r:=h
  simp only[VR]at hv
  obtain⟨a,rfl⟩:=hv
  exact⟨[],[],h,a,0,rfl,λi hi=>absurd hi (by simp)⟩
 ·rename_i id
  simp only[VR]at hv
  obtain⟨_,rfl⟩:=hv
  split at h
  ·rename_i e1 l hid
   obtain⟨e',h⟩:=bh h
   cases e'
   refine⟨_,_,h,?_⟩
   have:=hm.gT id _ hid
   simp only[ER]at this
   rcases this with⟨rfl,a,hv⟩|⟨b,cs,t,cap,hv,hb,hM,hc,hl,CT,hs,hr⟩
   ·exact⟨a,0,hv,λi hi=>absurd hi (by simp)⟩
   ·refine⟨_,cap,hv,λi hi=>⟨b,0,_,rfl,?_,hr i hi⟩⟩
    rw[fh]
    exact At.of_block hb _ _
  ·rename_i e1 l hid
   obtain⟨e',h⟩:=bh h
   cases e'
   have:=hm.gT id _ hid
   simp only[ER]at this
   exact⟨_,_,h,.agW (V.slice.2 this.1)⟩
  ·cases h
 ·cases h
theorem Src.cells{w:World}{M:Nat→Prop}{e:Ty}{v:Value}{l:List e.den}(h:Src w M e v l)(ij:l≠[]):
  ∃b off cap news,v= .slice (some ⟨b,off,none⟩) l.length cap∧news.length=l.length*e.size∧At w b off news∧
   (∀i (hi:i<l.length),Rd w M e ((news.drop (i*e.size)).take e.size) l[i])∧ ∀u∈news,u.oneCell'=true:=by
 obtain⟨a,cap,rfl,hr⟩:=h
 have h0:0<l.length:=oK.2 ij
 obtain⟨b,off,_,ha,_⟩:=hr 0 h0
 subst ha
 have key: ∀n,n≤l.length→ ∃news:List Value,news.length=n*e.size∧At w b off news∧
   (∀i (hi:i<l.length),i<n→Rd w M e ((news.drop (i*e.size)).take e.size) l[i])∧ ∀u∈news,u.oneCell'=true:=by
  intro n
  induction n with
  |zero=>exact λ_=>⟨[],by simp,λj v hj=>by simp at hj,λi _ hi=>ω,by simp⟩
  |succ n ih=>
   intro hn
   obtain⟨news,hl,oO,kd,BP⟩:=ih ω
   obtain⟨b',ay2,cs,ha,arL,Tn⟩:=hr n ω
   cases ha
   refine⟨news++cs,by rw[aX,hl,Tn.length,dR,kg],At.append.2 ⟨oO,by rw[hl];exact arL⟩,λi hi mi=> ?_,λu hu=> ?_⟩
   ·by_cases dU:i<n
    ·have h1:(i+1)*e.size≤n*e.size:=jh _ dU
     rw[dR,kg]at h1
     rw[wx ω,wv (by rw[dy];omega)]
     exact kd i hi dU
    ·obtain rfl:i=n:=ω
     rw[lH hl,gh (by rw[Tn.length];exact aI _)]
     exact Tn
   ·rcases bf.1 hu with hu|hu
    ·exact BP u hu
    ·exact Tn.kS u hu
 obtain⟨news,hl,oO,kd,BP⟩:=key l.length (aI _)
 exact⟨b,off,cap,news,rfl,hl,oO,λi hi=>kd i hi hi,BP⟩
structure Core(c:Ctx)(σ:St)(tm:Array Value)(w:World)(M:Nat→Prop)(ν:Nat→Value):Prop where
 mem:Mem c σ.H w M ν
 tmp: ∀i,VR w M σ.H ν (σ.T i) (tm.getD i undef)
theorem To(w:World)(M:Nat→Prop)(H:Nat→Option aW)(ν:Nat→Value)(v:Value):VR w M H ν (cvA v) v:=by
 unfold cvA
 split<;>simp[VR,V,Ty.isAgg,Rd]
theorem Core.op{c:Ctx}{σ:St}{tm:Array Value}{w:World}{M:Nat→Prop}{ν:Nat→Value}(h:Core c σ tm w M ν)(ds:List Deferred)(x:Operand):
  VR w M σ.H ν (σ.ρ x) (({tmps:=tm,defers:=ds}:Act).eval x):=by
 cases x with
 |tmp t=>exact h.tmp t
 |const v=>exact To w M σ.H ν v
 |global g=>simp[St.ρ,VR]
 |func f=>simp[St.ρ,VR,jk,Act.eval]
def al0(P:Program)(t:TypeId)(τ:Ty):Prop:=
 ∀(w:World) (M:Nat→Prop) (u v:Value) (x y:τ.den) (b:BinOp) (xo yo:Operand),V w M τ u x→V w M τ v y→
  (eqGuard b t xo yo u v).run P w= .ok () w∧(binOp .eql t u v).run P w= .ok (.bool (ti τ x y)) w∧(binOp .neq t u v).run P w= .ok (.bool (!ti τ x y)) w
structure EnvTy(P:Program)(E:Env):Prop where
 ty: ∀t τ,E.ty t=some τ→jX P τ t
 eq: ∀t τ,E.ty t=some τ→τ.comparable=true→τ.isAgg=true→al0 P t τ
end VM
end
section
namespace VM
open Go
variable{P:Program}
theorem Au{o:Oper}{ρ:Operand→Value}{t:TypeId}{i:TypeInfo}{z:Value}(ho:o.op= .alloc t)(hi:P.info? t=some i)(hz:i.zero=some z)(w:World):
  (execOp ρ o).run P w= .ok (.value (.pointer (some ⟨w.heap.size,0,none⟩))) (w.alloc (.cells z.cells t)):=by
 simp[execOp,ho,Instr.alloc,zeroValue,typeInfo,hi,hz,newVar,newRow]
theorem FJ{o:Oper}{ρ:Operand→Value}{t:TypeId}{x:Operand}(ho:o.op= .box t x)(w:World):
  (execOp ρ o).run P w= .ok (.value (.pointer (some ⟨w.heap.size,0,none⟩))) (w.alloc (.cells (ρ x).cells t)):=by
 simp[execOp,ho,Instr.box,newVar,newRow]
theorem qP{τ:Ty}{t:TypeId}(h:jX P τ t)(w:World):(isAgg t).run P w= .ok τ.isAgg w:=by
 unfold jX at h
 cases τ<;>simp only[fP]at h
 ·simp[isAgg,run_underlying h.2,Ty.isAgg]
 ·simp[isAgg,run_underlying h.2,Ty.isAgg]
 ·simp[isAgg,run_underlying h.2,Ty.isAgg]
 ·obtain⟨_,e',h',_⟩:=h;simp[isAgg,run_underlying h',Ty.isAgg]
 ·obtain⟨_,e',h',_⟩:=h;simp[isAgg,run_underlying h',Ty.isAgg]
 ·obtain⟨_,e',f,h',_⟩:=h;simp[isAgg,run_underlying h',Ty.isAgg]
 ·obtain⟨_,e',h',_⟩:=h;simp[isAgg,run_underlying h',Ty.isAgg]
theorem c6{τ:Ty}{t:TypeId}(h:jX P τ t)(w:World):(Go.sizeOf t).run P w= .ok τ.size w:=by
 obtain⟨i,hi,hs,_⟩:=h.base
 simp[Go.sizeOf,typeInfo,hi,hs]
theorem CW{w:World}{M:Nat→Prop}{τ:Ty}{t:TypeId}(h:jX P τ t){b off:Nat}{cs:List Value}{x:τ.den}(ha:At w b off cs)(hr:Rd w M τ cs x):
  (loadVar t ⟨b,off,none⟩).run P w= .ok (bD τ cs) w:=by
 have hl:(loadCells ⟨b,off,none⟩ τ.size).run P w= .ok cs.toArray w:=by
  rw[←hr.length]
  exact run_loadCells_list w _ cs λj v hj=>by rw[show(⟨b,off,none⟩:Addr).add j=⟨b,off+j,none⟩from by unfold Addr.add;split<;>simp_all];exact ha j v hj
 unfold bD
 by_cases FK:τ.isAgg=true
 ·simp[loadVar,qP h,FK,c6 h,hl]
 ·obtain⟨v,rfl,hc⟩:=hr.scalar (by simpa using FK)
  have h0:=ha 0 v rfl
  simp only[kf]at h0
  simp[loadVar,qP h,FK,load,Sem.run,h0]
theorem CX{w:World}{τ:Ty}{t:TypeId}(h:jX P τ t)(FK:τ.isAgg=true){b off:Nat}{cs:List Value}(ha:At w b off cs)(hl:cs.length=τ.size):
  (loadVar t ⟨b,off,none⟩).run P w= .ok (.agg cs.toArray) w:=by
 have hl:(loadCells ⟨b,off,none⟩ τ.size).run P w= .ok cs.toArray w:=by
  rw[←hl]
  exact run_loadCells_list w _ cs λj v hj=>by rw[show(⟨b,off,none⟩:Addr).add j=⟨b,off+j,none⟩from by unfold Addr.add;split<;>simp_all];exact ha j v hj
 simp[loadVar,qP h,FK,c6 h,hl]
theorem FL{o:Oper}{ρ:Operand→Value}{t:TypeId}{x:Operand}(ho:o.op= .load t x){w:World}{τ:Ty}(h:jX P τ t)(FK:τ.isAgg=true){b off:Nat}{cs:List Value}
  (hx:ρ x= .pointer (some ⟨b,off,none⟩)) (ha:At w b off cs) (hl:cs.length=τ.size):
  (execOp ρ o).run P w= .ok (.value (.agg cs.toArray)) w:=by
 simp[execOp,ho,hx,Instr.loadAt,Instr.sureAddr,CX h FK ha hl]
theorem w5{o:Oper}{ρ:Operand→Value}{t:TypeId}{x:Operand}(ho:o.op= .load t x){w:World}{M:Nat→Prop}{τ:Ty}(h:jX P τ t){b off:Nat}{cs:List Value}{y:τ.den}
  (hx:ρ x= .pointer (some ⟨b,off,none⟩)) (ha:At w b off cs) (hr:Rd w M τ cs y):
  (execOp ρ o).run P w= .ok (.value (bD τ cs)) w:=by
 simp[execOp,ho,hx,Instr.loadAt,Instr.sureAddr,CW h ha hr]
theorem jl{o:Oper}{ρ:Operand→Value}{t:TypeId}{x y:Operand}(ho:o.op= .store t x y){w:World}{τ:Ty}(h:jX P τ t){b off:Nat}{cur:Array Value}{te:TypeId}
  (hx:ρ x= .pointer (some ⟨b,off,none⟩)) (hg:w.heap[b]? =some (.cells cur te (0,0))) (hs:(ρ y).cells.size=τ.size) (hf:off+τ.size≤cur.size) (h1: ∀v∈(ρ y).cells.toList,v.oneCell'=true):
  (execOp ρ o).run P w= .ok .skip (w.setRow b (cur.toList.take off++(ρ y).cells.toList++cur.toList.drop (off+(ρ y).cells.toList.length)).toArray):=by
 have CY:=run_storeCells_at (P:=P) b off te (ρ y).cells.toList 0 cur w hg (by simp[hs];omega) h1
 simp only[kf]at CY
 simp[execOp,ho,hx,Instr.storeAt,Instr.sureAddr,storeVar,c6 h,hs,CY]
theorem ua{o:Oper}{ρ:Operand→Value}{t:TypeId}{x:Operand}{n:Nat}(ho:o.op= .fieldAddr t x n){w:World}{fs:Array Field}{f:Field}{b off:Nat}{υ:Ty}
  (hu:P.underlying t=some (.struct fs)) (hf:fs[n]? =some f) (hl:jX P υ f.type) (hz:υ.size≠0) (hx:ρ x= .pointer (some ⟨b,off,none⟩)):
  ∃a,(execOp ρ o).run P w= .ok (.value a) w∧a= .pointer (some ⟨b,off+f.offset,none⟩):=by
 refine⟨_,?_,rfl⟩
 simp[execOp,ho,hx,Instr.fieldAt,Instr.sureAddr,run_underlying hu,hf,fieldPlace,Addr.add_lit,c6 hl,hz]
theorem Av{τ:Ty}{t:TypeId}(h:jX P τ t){w:World}{M:Nat→Prop}{cs:Array Value}{off:Nat}{x:τ.den}(hr:Rd w M τ ((cs.toList.drop off).take τ.size) x):
  (part t cs off).run P w= .ok (bD τ ((cs.toList.drop off).take τ.size)) w:=by
 have hl:=hr.length
 unfold bD
 by_cases FK:τ.isAgg=true
 ·simp only[part,Sem.run_bind,qP h,Result.andThen_ok,FK,gA,c6 h]
  simp
  rw[bE,dy,ba]at hl
  apply gb
  simp only[Array.toList_extract,List.extract_eq_take_drop,zK]
 ·obtain⟨v,hv,hc⟩:=hr.scalar (by simpa using FK)
  rw[hv]
  have h0:cs[off]? =some v:=by
   have:=gz (λl=>l[0]?) hv
   simp only[mf,mg]at this
   split at this
   ·simpa using this
   ·simp at this
  simp[part,qP h,FK,h0]
theorem Kp{o:Oper}{ρ:Operand→Value}{t:TypeId}{x:Operand}{n:Nat}(ho:o.op= .field t x n){w:World}{M:Nat→Prop}{fs:Array Field}{f:Field}{cs:Array Value}{υ:Ty}{y:υ.den}
  (hu:P.underlying t=some (.struct fs)) (hf:fs[n]? =some f) (hl:jX P υ f.type) (hx:ρ x= .agg cs) (hr:Rd w M υ ((cs.toList.drop f.offset).take υ.size) y):
  (execOp ρ o).run P w= .ok (.value (bD υ ((cs.toList.drop f.offset).take υ.size))) w:=by
 simp[execOp,ho,hx,Instr.field,run_underlying hu,hf,asAgg,Av hl hr]
theorem iJ{o:Oper}{ρ:Operand→Value}{t e:TypeId}{x i:Operand}(ho:o.op= .indexAddr t x i){w:World}{τe:Ty}{b off len cap:Nat}{k:IntKind}{n:Int}
  (hu:P.underlying t=some (.slice e)) (he:jX P τe e) (hx:ρ x= .slice (some ⟨b,off,none⟩) len cap) (hi:ρ i= .int k n) (h0:0≤n) (h1:n<(len:Int)):
  (execOp ρ o).run P w= .ok (.value (.pointer (some ⟨b,off+n.toNat*τe.size,none⟩))) w:=by
 simp[execOp,ho,hx,hi,Instr.indexAt,asIntOf,run_underlying hu,h0,h1,c6 he,Addr.add_lit]
theorem sU{o:Oper}{ρ:Operand→Value}{t e:TypeId}{x i:Operand}(ho:o.op= .indexAddr t x i){w:World}{τe:Ty}{b off len:Nat}{k:IntKind}{n:Int}
  (hu:P.underlying t=some (.array len e)) (he:jX P τe e) (hx:ρ x= .pointer (some ⟨b,off,none⟩)) (hi:ρ i= .int k n) (h0:0≤n) (h1:n<(len:Int)):
  (execOp ρ o).run P w= .ok (.value (.pointer (some ⟨b,off+n.toNat*τe.size,none⟩))) w:=by
 simp[execOp,ho,hx,hi,Instr.indexAt,Instr.sureAddr,asIntOf,run_underlying hu,h0,h1,c6 he,Addr.add_lit]
theorem Iq{o:Oper}{ρ:Operand→Value}{t e:TypeId}{x i:Operand}(ho:o.op= .index t x i){w:World}{M:Nat→Prop}{τe:Ty}{len:Nat}{k:IntKind}{n:Int}{cs:Array Value}{y:τe.den}
  (hu:P.underlying t=some (.array len e)) (he:jX P τe e) (hx:ρ x= .agg cs) (hi:ρ i= .int k n) (h0:0≤n) (h1:n<(len:Int)) (hr:Rd w M τe ((cs.toList.drop (n.toNat*τe.size)).take τe.size) y):
  (execOp ρ o).run P w= .ok (.value (bD τe ((cs.toList.drop (n.toNat*τe.size)).take τe.size))) w:=by
 simp[execOp,ho,hx,hi,Instr.index,asIntOf,run_underlying hu,h0,h1,c6 he,Av he hr]
theorem FM{o:Oper}{ρ:Operand→Value}{x:Operand}{n:Nat}(ho:o.op= .extract x n){w:World}{us:List Value}{v:Value}(hx:ρ x= .tuple us.toArray)(hv:us[n]? =some v):
  (execOp ρ o).run P w= .ok (.value v) w:=by
 simp[execOp,ho,hx,Instr.extract,hv]
theorem MA{o:Oper}{ρ:Operand→Value}{x y z:Operand}(ho:o.op= .pick x y z){w:World}{b:Bool}(hx:ρ x= .bool b):
  (execOp ρ o).run P w= .ok (.value (if b then ρ y else ρ z)) w:=by
 simp[execOp,ho,hx,asBool]
theorem vP{o:Oper}{ρ:Operand→Value}{x:Operand}(ho:o.op= .nilCheck x){w:World}{a:Addr}(hx:ρ x= .pointer (some a)):
  (execOp ρ o).run P w= .ok (.value (.pointer (some a))) w:=by
 simp[execOp,ho,hx]
theorem DZ{o:Oper}{ρ:Operand→Value}{f:FuncId}{first caps:Array Operand}(ho:o.op= .makeFunc (.func f) first caps)(hf:first= #[]){w:World}:
  (execOp ρ o).run P w= .ok (.value (.func (.func f) #[] (caps.map ρ))) w:=by
 subst hf
 simp[execOp,ho,Instr.makeFunc]
theorem FN{o:Oper}{ρ:Operand→Value}{s d:TypeId}{x:Operand}(ho:o.op= .convert s d x){w:World}{k k':IntKind}{n:Int}(hs:(P.underlying s).isSome=true)(hd:P.underlying d=some (.int k))(hx:ρ x= .int k' n):
  (execOp ρ o).run P w= .ok (.value (.int k (k.wrap n))) w:=by
 obtain⟨ds,hs⟩:=Option.isSome_iff_exists.1 hs
 simp[execOp,ho,hx,convert,run_underlying hs,run_underlying hd,Conv.intToInt]
theorem w6{o:Oper}{ρ:Operand→Value}{u:UnOp}{t:TypeId}{x:Operand}(ho:o.op= .unOp u t x){w:World}{v:Value}(h:(Op.unary u (ρ x)).run P w= .ok v w):
  (execOp ρ o).run P w= .ok (.value v) w:=by
 simp[execOp,ho,h]
theorem qq{o:Oper}{ρ:Operand→Value}{b:BinOp}{t t':TypeId}{x y:Operand}(ho:o.op= .binOp b t x y t'){w:World}{v:Value}
  (hg:(eqGuard b t x y (ρ x) (ρ y)).run P w= .ok () w) (h:(binOp b t (ρ x) (ρ y)).run P w= .ok v w):
  (execOp ρ o).run P w= .ok (.value v) w:=by
 simp[execOp,ho,hg,h]
theorem pS{b:BinOp}{t:TypeId}{x y:Operand}{k k':IntKind}{m n:Int}(w:World):(eqGuard b t x y (.int k m) (.int k' n)).run P w= .ok () w:=by
 cases b<;>simp[eqGuard]
theorem BQ{b:BinOp}{t:TypeId}{x y:Operand}{m n:Bool}(w:World):(eqGuard b t x y (.bool m) (.bool n)).run P w= .ok () w:=by
 cases b<;>simp[eqGuard]
theorem D0{b:BinOp}{t:TypeId}{x y:Operand}{m n:ByteArray}(w:World):(eqGuard b t x y (.string m) (.string n)).run P w= .ok () w:=by
 cases b<;>simp[eqGuard]
theorem ns{o:Oper}{ρ:Operand→Value}{b:Builtin}{args:Array Operand}{ts:Array TypeId}(ho:o.op= .call {callee:= .builtin b,args,argTypes:=ts}){w:World}:
  ∃cs,(execOp ρ o).run P w=(builtin b ts o.type cs (args.map ρ)).run P w:=by
 refine⟨args.map fun| .const _=>true|_=>false,?_⟩
 simp[execOp,ho,resolve,invoke]
 rfl
end VM
end
