/- A part of the proof of LotAll of layer 23: a machine that reads a function of the program as an equation between values. -/
import Derived.Test.YthnjnpjmbabcaaaGreatVm0
import Derived.WalkLawsBesides
set_option linter.all false
open List renaming getD→γ
section
namespace VM
open Go
def z7(P:Program)(τ:Ty)(t:TypeId):Prop:=
 ∃i,P.info? t=some i∧i.size=τ.size∧i.zero=some (aK τ τ.aW)∧i.bytes≤2048
def dk(P:Program):Ty→TypeId ⊕ (Array Field×Nat×Nat)→Prop
 | .int k,.inl t=>z7 P (.int k) t∧P.underlying t=some (.int k)
 | .bool,.inl t=>z7 P .bool t∧P.underlying t=some .bool
 | .str,.inl t=>z7 P .str t∧P.underlying t=some .string
 | .slice e,.inl t=>z7 P (.slice e) t∧ ∃e',P.underlying t=some (.slice e')∧dk P e (.inl e')
 | .arr n e,.inl t=>z7 P (.arr n e) t∧ ∃e',P.underlying t=some (.array n e')∧dk P e (.inl e')
 | .unit,.inl t=>z7 P .unit t∧ ∃fs,P.underlying t=some (.struct fs)∧fs.size=0
 | .unit,.inr (fs,n,_)=>fs.size=n
 | .pair a b,.inl t=>z7 P (.pair a b) t∧ ∃fs f,P.underlying t=some (.struct fs)∧fs[0]? =some f∧f.offset=0∧dk P a (.inl f.type)∧dk P b (.inr (fs,1,a.size))
 | .pair a b,.inr (fs,n,off)=> ∃f,fs[n]? =some f∧f.offset=off∧dk P a (.inl f.type)∧dk P b (.inr (fs,n+1,off+a.size))
 |_,.inr _=>False
def fe(P:Program)(τ:Ty)(t:TypeId):Prop:=dk P τ (.inl t)
theorem fe.base{P:Program}{τ:Ty}{t:TypeId}(h:fe P τ t):z7 P τ t:=by
 unfold fe at h;cases τ<;>simp only[dk]at h<;>exact h.1
theorem fe.int{P:Program}{k:IntKind}{t:TypeId}(h:fe P (.int k) t):P.underlying t=some (.int k):=by simp only[fe,dk]at h;exact h.2
theorem fe.bool{P:Program}{t:TypeId}(h:fe P .bool t):P.underlying t=some .bool:=by simp only[fe,dk]at h;exact h.2
theorem fe.str{P:Program}{t:TypeId}(h:fe P .str t):P.underlying t=some .string:=by simp only[fe,dk]at h;exact h.2
theorem fe.slice{P:Program}{e:Ty}{t:TypeId}(h:fe P (.slice e) t): ∃e',P.underlying t=some (.slice e')∧fe P e e':=by simp only[fe,dk]at h;exact h.2
theorem fe.arr{P:Program}{n:Nat}{e:Ty}{t:TypeId}(h:fe P (.arr n e) t): ∃e',P.underlying t=some (.array n e')∧fe P e e':=by simp only[fe,dk]at h;exact h.2
theorem fe.isSome{P:Program}{τ:Ty}{t:TypeId}(h:fe P τ t):(P.underlying t).isSome=true:=by
 unfold fe at h
 cases τ<;>simp only[dk]at h
 ·simp[h.2]
 ·simp[h.2]
 ·simp[h.2]
 ·obtain⟨_,e',h',_⟩:=h;simp[h']
 ·obtain⟨_,e',h',_⟩:=h;simp[h']
 ·obtain⟨_,e',f,h',_⟩:=h;simp[h']
 ·obtain⟨_,e',h',_⟩:=h;simp[h']
inductive ui:(τ:Ty)→τ.den→Nat→(υ:Ty)→υ.den→Nat→Prop where
 |here {a b:Ty} (x:(Ty.pair a b).den):ui (.pair a b) x 0 a x.1 0
 |there {a b:Ty} (x:(Ty.pair a b).den) {n:Nat} {υ:Ty} {y:υ.den} {o:Nat} (h:ui b x.2 n υ y o):ui (.pair a b) x (n+1) υ y (a.size+o)
theorem jB{α:Type}{r:α}: ∀{τ:Ty} {x:τ.den} {n:Nat} {k:(υ:Ty)→υ.den→Option α},nC τ x n k=some r→ ∃υ y o,ui τ x n υ y o∧k υ y=some r
 | .pair a b,x,0,k,h=>⟨a,x.1,0,.here x,h⟩
 | .pair a b,x,n+1,k,h=>by
  obtain⟨υ,y,o,hf,hk⟩:=jB (τ:=b) (x:=x.2) (n:=n) (k:=k) h
  exact⟨υ,y,_,.there x hf,hk⟩
 | .int _,_,_,_,h| .bool,_,_,_,h| .str,_,_,_,h| .slice _,_,_,_,h| .unit,_,_,_,h| .arr _ _,_,_,_,h=>by simp[nC]at h
theorem ui.bound{τ:Ty}{x:τ.den}{n:Nat}{υ:Ty}{y:υ.den}{o:Nat}(h:ui τ x n υ y o):o+υ.size≤τ.size:=by
 induction h with
 |here x=>simp[Ty.size]
 |there x h ih=>simp only[Ty.size];omega
theorem ui.rd{w:World}{M:Nat→Prop}{τ:Ty}{x:τ.den}{n:Nat}{υ:Ty}{y:υ.den}{o:Nat}(h:ui τ x n υ y o):
  ∀{cs:List Value},Rd w M τ cs x→Rd w M υ ((cs.drop o).take υ.size) y:=by
 induction h with
 |here x=>
  intro cs hr
  simp only[Rd]at hr
  obtain⟨c1,c2,rfl,h1,_⟩:=hr
  rw[bX,oW h1.length];exact h1
 |there x h ih=>
  intro cs hr
  simp only[Rd]at hr
  obtain⟨c1,c2,rfl,h1,h2⟩:=hr
  rw[←eC,jj h1.length]
  exact ih h2
theorem dk.dS{P:Program}{τ:Ty}{x:τ.den}{m:Nat}{υ:Ty}{y:υ.den}{o:Nat}(h:ui τ x m υ y o):
  ∀{fs:Array Field} {n off:Nat},dk P τ (.inr (fs,n,off))→ ∃f,fs[n+m]? =some f∧f.offset=off+o∧fe P υ f.type:=by
 induction h with
 |here x=>
  intro fs n off hl
  simp only[dk]at hl
  obtain⟨f,hf,ho,ha,_⟩:=hl
  exact⟨f,hf,by simpa using ho,ha⟩
 |there x h ih=>
  intro fs n off hl
  simp only[dk]at hl
  obtain⟨f,hf,ho,_,hb⟩:=hl
  obtain⟨f',qt,OM,yE⟩:=ih hb
  exact⟨f',by rw[←qt];congr 1;omega,ω,yE⟩
theorem fe.dS{P:Program}{τ:Ty}{t:TypeId}{x:τ.den}{m:Nat}{υ:Ty}{y:υ.den}{o:Nat}(hl:fe P τ t)(h:ui τ x m υ y o):
  ∃fs f,P.underlying t=some (.struct fs)∧fs[m]? =some f∧f.offset=o∧fe P υ f.type:=by
 unfold fe at hl
 cases h with
 |here x=>
  simp only[dk]at hl
  obtain⟨_,fs,f,hu,hf,ho,ha,_⟩:=hl
  exact⟨fs,f,hu,hf,ho,ha⟩
 |there x h=>
  simp only[dk]at hl
  obtain⟨_,fs,f,hu,hf,ho,_,hb⟩:=hl
  obtain⟨f',qt,OM,yE⟩:=dk.dS h hb
  exact⟨fs,f',hu,by rw[←qt];congr 1;omega,ω,yE⟩
inductive z8:List Step→(τ:Ty)→τ.den→(υ:Ty)→υ.den→Nat→Prop where
 |nil {τ:Ty} (x:τ.den):z8 [] τ x τ x 0
 |dS {p:List Step} {τ υ σ:Ty} {x:τ.den} {n o:Nat} {y:υ.den} {z:σ.den} {q:Nat} (h:ui τ x n υ y o) (r:z8 p υ y σ z q):z8 (.dS n::p) τ x σ z (o+q)
 |idx {p:List Step} {n:Nat} {e σ:Ty} {x:(Ty.arr n e).den} {i:Nat} {z:σ.den} {q:Nat} (r:z8 p e (γ x i e.zero) σ z q):z8 (.idx i::p) (.arr n e) x σ z (i*e.size+q)
theorem fu{α:Type}{r:α}: ∀{p:List Step} {τ:Ty} {x:τ.den} {k:(υ:Ty)→υ.den→Option α},si p τ x k=some r→ ∃υ y o,z8 p τ x υ y o∧k υ y=some r
 |[],τ,x,k,h=>⟨τ,x,0,.nil x,h⟩
 | .dS n::p,τ,x,k,h=>by
  obtain⟨υ,y,o,hf,h'⟩:=jB (h:nC τ x n _=some r)
  obtain⟨σ,z,q,hp,hk⟩:=fu h'
  exact⟨σ,z,_,.dS hf hp,hk⟩
 | .idx i::p,τ,x,k,h=>by
  cases τ with
  |arr n e=>
   obtain⟨σ,z,q,hp,hk⟩:=fu (p:=p) (τ:=e) (x:=γ x i e.zero) (k:=k) h
   exact⟨σ,z,_,.idx hp,hk⟩
  |_=>simp[si,OJ]at h
def lN:Ty→Nat→Ty
 | .pair a b,n=>match n with|0=>a|n+1=>lN b n
 |τ,_=>τ
def de:Ty→Nat→Nat
 | .pair a b,n=>match n with|0=>0|n+1=>a.size+de b n
 |_,_=>0
def ON:Ty→Ty
 | .arr _ e=>e
 |τ=>τ
def yP:List Step→Ty→Ty
 |[],τ=>τ
 | .dS n::p,τ=>yP p (lN τ n)
 | .idx _::p,τ=>yP p (ON τ)
def bb:List Step→Ty→Nat
 |[],_=>0
 | .dS n::p,τ=>de τ n+bb p (lN τ n)
 | .idx i::p,τ=>i*(ON τ).size+bb p (ON τ)
def qu:List Step→Ty→Prop
 |[],_=>True
 | .dS n::p,τ=>qu p (lN τ n)
 | .idx i::p,τ=>(∃n e,τ= .arr n e∧i<n)∧qu p (ON τ)
theorem ui.eq{τ:Ty}{x:τ.den}{n:Nat}{υ:Ty}{y:υ.den}{o:Nat}(h:ui τ x n υ y o):υ=lN τ n∧o=de τ n:=by
 induction h with
 |here x=>exact⟨rfl,rfl⟩
 |there x h ih=>obtain⟨rfl,rfl⟩:=ih;exact⟨rfl,rfl⟩
theorem z8.eq{p:List Step}{τ:Ty}{x:τ.den}{υ:Ty}{y:υ.den}{o:Nat}(h:z8 p τ x υ y o):υ=yP p τ∧o=bb p τ:=by
 induction h with
 |nil x=>exact⟨rfl,rfl⟩
 |dS h r ih=>
  obtain⟨h1,h2⟩:=h.eq
  obtain⟨h3,h4⟩:=ih
  subst h1 h2 h3 h4
  exact⟨rfl,rfl⟩
 |idx r ih=>
  obtain⟨h3,h4⟩:=ih
  subst h3 h4
  exact⟨rfl,rfl⟩
theorem OO(p q:List Step): ∀τ,yP (p++q) τ=yP q (yP p τ):=by
 induction p with
 |nil=>intro τ;rfl
 |cons s p ih=>intro τ;cases s<;>simp[yP,ih]
theorem mm(p q:List Step): ∀τ,bb (p++q) τ=bb p τ+bb q (yP p τ):=by
 induction p with
 |nil=>intro τ;simp[bb,yP]
 |cons s p ih=>intro τ;cases s<;>simp[bb,yP,ih,ju]
theorem mo(p q:List Step): ∀τ,qu (p++q) τ↔qu p τ∧qu q (yP p τ):=by
 induction p with
 |nil=>intro τ;simp[qu,yP]
 |cons s p ih=>intro τ;cases s<;>simp[qu,yP,ih,and_assoc]
theorem fV{α:Type}(l:List α)(i:Nat)(d:α)(h:i<l.length):l.getD i d=l[i]:=by simp[γ,ba h]
theorem sm{α:Type}(n:Nat): ∀(l:List (List α)) (i:Nat) (h:i<l.length),(∀j (hj:j<l.length),l[j].length=n)→(l.flatten.drop (i*n)).take n=l[i]
 |a::l,0,_,hn=>by
  have:=hn 0 (by simp)
  simp only[rH]at this
  simp[←this]
 |a::l,i+1,h,hn=>by
  have h0:=hn 0 (by simp)
  simp only[rH]at h0
  rw[rR,cr,fi,Nat.add_comm (i*n) n,←eC,jj h0]
  exact sm n l i (by simpa using h) (λj hj=>hn (j+1) (by simp;omega))
theorem Rd.idx{w:World}{M:Nat→Prop}{n:Nat}{e:Ty}{cs:List Value}{x:(Ty.arr n e).den}(h:Rd w M (.arr n e) cs x){i:Nat}(hi:i<n):
  Rd w M e ((cs.drop (i*e.size)).take e.size) (γ x i e.zero):=by
 simp only[Rd]at h
 obtain⟨hn,F2,hc,rfl,hr⟩:=h
 rw[sm e.size F2 i ω (λj hj=>(hr j ω hj).length),fV x i e.zero ω]
 exact hr i ω ω
theorem z8.bound{p:List Step}{τ:Ty}{x:τ.den}{υ:Ty}{y:υ.den}{o:Nat}(h:z8 p τ x υ y o):qu p τ→o+υ.size≤τ.size:=by
 induction h with
 |nil x=>intro _;simp
 |dS h r ih=>
  intro hi
  obtain⟨h1,h2⟩:=h.eq
  subst h1
  have:=ih hi
  have:=h.bound
  omega
 | @idx p n e σ x i z q r ih=>
  intro hi
  obtain⟨⟨n',e',he,jl⟩,mj⟩:=hi
  cases he
  have:=ih mj
  have h2:(i+1)*e.size≤n*e.size:=eB _ jl
  rw[cr]at h2
  simp only[Ty.size]
  omega
theorem z8.rd{w:World}{M:Nat→Prop}{p:List Step}{τ:Ty}{x:τ.den}{υ:Ty}{y:υ.den}{o:Nat}(h:z8 p τ x υ y o):
  qu p τ→ ∀{cs:List Value},Rd w M τ cs x→Rd w M υ ((cs.drop o).take υ.size) y:=by
 induction h with
 |nil x=>intro _ cs hr;rw[bX,dI (by rw[hr.length];exact aH _)];exact hr
 |dS h r ih=>
  intro hi cs hr
  obtain⟨h1,h2⟩:=h.eq
  subst h1
  have:=ih hi (h.rd hr)
  have hb:=z8.bound r hi
  rw[kQ,eC,kR,du ω]at this
  exact this
 | @idx p n e σ x i z q r ih=>
  intro hi cs hr
  obtain⟨⟨n',e',he,jl⟩,mj⟩:=hi
  cases he
  have:=ih mj (hr.idx jl)
  have hb:=z8.bound r mj
  rw[kQ,eC,kR,du ω]at this
  exact this
def ca{α:Type}(cs:List α)(o:Nat)(new:List α):List α:=cs.take o++new++cs.drop (o+new.length)
theorem sn{α:Type}{a b:List α}{o:Nat}{new:List α}(h:o+new.length≤a.length):ca (a++b) o new=ca a o new++b:=by
 unfold ca
 rw[ry ω,rz ω]
 simp only[bs]
theorem pV{α:Type}{a b:List α}{o:Nat}{new:List α}:ca (a++b) (a.length+o) new=a++ca b o new:=by
 unfold ca
 rw[List.take_append,dI ω,rF,ju,List.drop_append,eT ω,rF]
 simp
theorem bV{α:Type}{a:List α}{o:Nat}{new:List α}(h:o+new.length≤a.length):(ca a o new).length=a.length:=by
 unfold ca;simp;omega
theorem vQ{α:Type}{a:List α}{o i n:Nat}{new:List α}(h:i+n≤o∨o+new.length≤i)(hl:o+new.length≤a.length):((ca a o new).drop i).take n=(a.drop i).take n:=by
 apply oT
 intro j
 simp only[gK,gL]
 split
 ·rename_i hj
  unfold ca
  rcases h with h|h
  ·rw[bs,kt (by simp;omega),gK,ae ω]
  ·rw[kq (by simp;omega)]
   simp only[aO,a7,du (show o≤a.length by omega),gL]
   congr 1;omega
 ·rfl
theorem OP{α:Type}{a:List α}{o:Nat}{new:List α}(hl:o+new.length≤a.length):((ca a o new).drop o).take new.length=new:=by
 unfold ca
 rw[bs,jj (by simp;omega),oW rfl]
theorem pn{α:Type}{l:List α}{o:Nat}{u:α}(h:l[o]? =some u):ca l o [u]=l:=by
 obtain⟨c6,rfl⟩:=lX.1 h
 unfold ca
 simp
theorem pW{α:Type}{l:List α}{o:Nat}{u:α}(h:o<l.length):(ca l o [u])[o]? =some u:=by
 unfold ca
 rw[bs,kq (by simp;omega)]
 simp[du (Nat.le_of_lt h)]
theorem fv{τ:Ty}: ∀{n:Nat} {a:Ty},qm τ n=some a→ ∀x:τ.den,∃y o,ui τ x n a y o:=by
 induction τ with
 |pair a b _ HV=>
  intro n c h x
  cases n with
  |zero=>cases h;exact⟨_,_,.here x⟩
  |succ n=>
   obtain⟨y,o,hf⟩:=HV (n:=n) (a:=c) h x.2
   exact⟨y,_,.there x hf⟩
 |_=>intro n c h;simp[qm]at h
theorem m7: ∀{p:List Step} {τ υ:Ty},cQ p τ υ=true→ ∀x:τ.den,∃y o,z8 p τ x υ y o
 |[],τ,υ,h,x=>by
  have h:=bO h
  subst h
  exact⟨x,0,.nil x⟩
 | .dS n::p,τ,υ,h,x=>by
  unfold cQ at h
  split at h
  ·rename_i a ha
   obtain⟨y,o,hf⟩:=fv ha x
   obtain⟨z,q,hp⟩:=m7 h y
   exact⟨z,_,.dS hf hp⟩
  ·cases h
 | .idx _::_,_,_,h,_=>by simp[cQ]at h
theorem fW: ∀{p:List Step} {τ υ:Ty},cQ p τ υ=true→qu p τ∧yP p τ=υ
 |[],τ,υ,h=>⟨trivial,bO h⟩
 | .dS n::p,τ,υ,h=>by
  have h0:=h
  unfold cQ at h
  split at h
  ·rename_i a ha
   obtain⟨y,o,hf⟩:=fv ha τ.zero
   obtain⟨h1,h2⟩:=fW h
   have:=hf.eq.1
   subst this
   exact⟨h1,h2⟩
  ·cases h
 | .idx _::_,_,_,h=>by simp[cQ]at h
theorem qR: ∀{p q:List Step},yL p q=true→p=q
 |[],[],_=>rfl
 | .dS a::p,.dS b::q,h=>by
  simp only[yL,bg]at h
  rw[cJ h.1,qR h.2]
 |[],_::_,h| .dS _::_,[],h| .idx _::_,_,h| .dS _::_,.idx _::_,h=>by simp[yL]at h
theorem ui.apart{τ:Ty}{x:τ.den}{n:Nat}{υ:Ty}{y:υ.den}{o:Nat}(h:ui τ x n υ y o): ∀{x':τ.den} {n':Nat} {υ':Ty} {y':υ'.den} {o':Nat},ui τ x' n' υ' y' o'→n≠n'→o+υ.size≤o'∨o'+υ'.size≤o:=by
 induction h with
 |here x=>
  intro x' n' υ' y' o' h' eX
  cases h' with
  |here=>exact absurd rfl eX
  |there _ h'=>left;omega
 |there x h ih=>
  intro x' n' υ' y' o' h' eX
  cases h' with
  |here=>right;omega
  |there _ h'=>rcases ih h' (λe=>eX (by rw[e]))with h1|h1<;>omega
theorem z8.apart{p:List Step}{τ:Ty}{x:τ.den}{υ:Ty}{y:υ.den}{o:Nat}(h:z8 p τ x υ y o):qu p τ→ ∀{q:List Step} {e:Ty},cQ q τ (.slice e)=true→qk p q=false→bb q τ<o∨o+υ.size≤bb q τ:=by
 induction h with
 |nil x=>intro _ q e _ h;simp[qk]at h
 | @dS p τ υ σ x n o y z q hf r ih=>
  intro hi q' e hq hp
  obtain⟨h1,h2⟩:=hf.eq
  subst h1 h2
  cases q' with
  |nil=>
   have:=bO hq
   subst this
   cases hf
  |cons s q'=>
   cases s with
   |idx i=>simp[cQ]at hq
   |dS m=>
    unfold cQ at hq
    split at hq
    ·rename_i a ha
     obtain⟨y',o',qt⟩:=fv ha x
     obtain⟨h3,h4⟩:=qt.eq
     subst h3 h4
     have hb:=r.bound hi
     obtain⟨h5,h6⟩:=fW hq
     obtain⟨z',o2,yF⟩:=m7 hq y'
     have bT:=yF.bound h5
     have ho2:=yF.eq.2
     subst ho2
     simp only[bb]
     by_cases Z2:n=m
     ·subst Z2
      have Aa:qk p q'=false:=by
       simp only[qk,Bool.and_eq_false_iff]at hp
       rcases hp with hp|hp
       ·rw[jw]at hp;cases hp
       ·exact hp
      rcases ih hi hq Aa with h7|h7<;>omega
     ·rcases hf.apart qt Z2 with h7|h7
      ·right;omega
      ·left
       have:1≤(Ty.slice e).size:=aH _
       omega
    ·cases hq
 | @idx p n e' σ x i z q r ih=>
  intro hi q' e hq hp
  cases q' with
  |nil=>have:=bO hq;cases this
  |cons s q'=>
   cases s with
   |idx i=>simp[cQ]at hq
   |dS m=>simp[cQ,qm]at hq
def cn:Value→Option Nat
 | .pointer (some a)=>some a.block
 | .slice (some a) _ cap=>if cap=0 then none else some a.block
 |_=>none
def az.mut:az→Prop
 | .obj _ _| .own _ _| .dj _ _ _ _=>True
 |_=>False
def ER(w:World)(M:Nat→Prop)(v:Value):az→Prop
 | .obj τ x=> ∃b cs t,v= .pointer (some ⟨b,0,none⟩)∧w.heap[b]? =some (.cells cs t (0,0))∧M b∧Rd w M τ cs.toList x
 | .dj τ x p _=> ∃b cs t eH u,v= .pointer (some ⟨b,0,none⟩)∧w.heap[b]? =some (.cells cs t (0,0))∧M b∧Rd w M τ eH x∧cs.toList=ca eH (bb p τ) [u]∧u.oneCell'=true∧ ∃e,cQ p τ (.slice e)=true
 | .own e l=>(l=[]∧ ∃a,v= .slice a 0 0)∨
  ∃b cs t cap,v= .slice (some ⟨b,0,none⟩) l.length cap∧w.heap[b]? =some (.cells cs t (0,0))∧M b∧0<cap∧l.length≤cap∧cap≤maxLen∧cs.size=cap*e.size∧
   ∀i (h:i<l.length),Rd w M e ((cs.toList.drop (i*e.size)).take e.size) l[i]
 | .jk e l=>Rd w M (.slice e) [v] l∧((l=[]∧ ∃a n c,v= .slice a n c)∨ ∃b n c,v= .slice (some ⟨b,0,none⟩) n c)
 | .cV _ _ _=>True
 | .gone=>True
def AR(v:Value)(p:List Step)(u:Value):az→Prop
 | .obj τ _| .dj τ _ _ _=>qu p τ∧ ∃b,v= .pointer (some ⟨b,0,none⟩)∧u= .pointer (some ⟨b,bb p τ,none⟩)
 | .own e l| .jk e l=> ∃i q,p= .idx i::q∧i<l.length∧qu q e∧ ∃b n c,v= .slice (some ⟨b,0,none⟩) n c∧u= .pointer (some ⟨b,i*e.size+bb q e,none⟩)
 | .cV _ l _=> ∃i,p=[.idx i]∧i<l.length∧ ∃b n c,v= .slice (some ⟨b,0,none⟩) n c∧u= .pointer (some ⟨b,i,none⟩)
 | .gone=> ∃a,u= .pointer (some a)
def nG(τ:Ty)(n:Nat):Bool:=match qm τ n with
 |some (.slice _)=>true
 |_=>false
mutual
def VR(w:World)(M:Nat→Prop)(H:Nat→Option az)(ν:Nat→Value):aF→Value→Prop
 | .any,_=>True
 | .HS,v=>v=undef
 | .val τ x,v=>V w M τ v x
 | .zZ τ x n,v=>V w M τ v x∧ ∃cs a,v= .agg cs∧cs.toList[de τ n]? =some (.slice a 0 0)
 | .sub id e lo,v=>H id≠none∧ ∃a n cap,ν id= .slice a n cap∧v= .slice (if cap=lo then a else a.map (·.add (lo*e.size))) (n-lo) (cap-lo)
 | .yM τ x n j,v=> ∃cs eH,v= .agg cs∧Rd w M τ eH x∧cs.toList=ca eH (de τ n) [ν j]∧H j≠none∧nG τ n=true
 | .emp,v=> ∃a,v= .slice a 0 0
 | .ref id,v=>H id≠none∧v=ν id
 | .dQ id p,v=> ∃e,H id=some e∧AR (ν id) p v e
 | .kW τ x,v=> ∃b off,v= .pointer (some ⟨b,off,none⟩)∧b<w.heap.size∧ ¬M b∧ ∃cs,At w b off cs∧Rd w M τ cs x
 | .Sa vs,v=> ∃us:List Value,v= .tuple us.toArray∧eE w M H ν vs us
 | .BD f kX,v=> ∃cs:List Value,v= .func (.func f) #[] cs.toArray∧eE w M H ν kX cs
def eE(w:World)(M:Nat→Prop)(H:Nat→Option az)(ν:Nat→Value):List aF→List Value→Prop
 |[],[]=>True
 |a::as,v::vs=>VR w M H ν a v∧eE w M H ν as vs
 |_,_=>False
end
def az.fy:az→az→Prop
 | .obj τ _,.obj υ _| .obj τ _,.dj υ _ _ _| .dj τ _ _ _,.obj υ _| .dj τ _ _ _,.dj υ _ _ _=>τ=υ
 | .own e l,.own f k| .own e l,.jk f k| .jk e l,.jk f k=>e=f∧l.length=k.length
 | .cV _ l _,.cV _ k _=>l.length=k.length
 |_,.gone=>True
 |_,_=>False
structure eI(H:Nat→Option az)(ν:Nat→Value)(H':Nat→Option az)(ν':Nat→Value):Prop where
 dH: ∀i e,H i=some e→ ∃e',H' i=some e'∧e.fy e'
 head: ∀i,H i≠none→ν' i=ν i
theorem AR.ptr{v:Value}{p:List Step}{u:Value}{e:az}(h:AR v p u e): ∃a,u= .pointer (some a):=by
 cases e<;>simp only[AR]at h
 ·obtain⟨_,b,_,h⟩:=h;exact⟨_,h⟩
 ·obtain⟨_,b,_,h⟩:=h;exact⟨_,h⟩
 ·obtain⟨i,q,_,_,_,b,n,c,_,h⟩:=h;exact⟨_,h⟩
 ·obtain⟨i,q,_,_,_,b,n,c,_,h⟩:=h;exact⟨_,h⟩
 ·obtain⟨i,_,_,b,n,c,_,h⟩:=h;exact⟨_,h⟩
 ·exact h
theorem AR.fy{v:Value}{p:List Step}{u:Value}{e e':az}(h:AR v p u e)(l:e.fy e'):AR v p u e':=by
 have hp:=h.ptr
 cases e<;>cases e'<;>simp only[az.fy]at l<;>simp only[AR]at h ⊢ <;>try exact hp
 ·subst l;exact h
 ·subst l;exact h
 ·subst l;exact h
 ·subst l;exact h
 ·obtain⟨rfl,hl⟩:=l;obtain⟨i,q,hp,hi,r⟩:=h;exact⟨i,q,hp,ω,r⟩
 ·obtain⟨rfl,hl⟩:=l;obtain⟨i,q,hp,hi,r⟩:=h;exact⟨i,q,hp,ω,r⟩
 ·obtain⟨rfl,hl⟩:=l;obtain⟨i,q,hp,hi,r⟩:=h;exact⟨i,q,hp,ω,r⟩
 ·obtain⟨i,hp,hi,r⟩:=h;exact⟨i,hp,ω,r⟩
theorem az.fy.refl(e:az):e.fy e:=by cases e<;>simp[az.fy]
theorem eI.refl(H:Nat→Option az)(ν:Nat→Value):eI H ν H ν:=⟨λ_ e h=>⟨e,h,.refl e⟩,λ_ _=>rfl⟩
mutual
theorem VR.aV{w w':World}{M M':Nat→Prop}{H H':Nat→Option az}{ν ν':Nat→Value}(k:cm w M w' M')(g:eI H ν H' ν'):
  ∀{a:aF} {v:Value},VR w M H ν a v→VR w' M' H' ν' a v
 | .any,_,_=>by simp[VR]
 | .HS,_,h=>by simpa [VR]using h
 | .val τ x,v,h=>by simp only[VR]at h ⊢;exact h.aV k
 | .zZ τ x n,v,h=>by simp only[VR]at h ⊢;exact⟨h.1.aV k,h.2⟩
 | .sub id e lo,v,h=>by
  simp only[VR]at h ⊢
  obtain⟨h1,h2⟩:=h
  obtain⟨e,he⟩:=rA.1 h1
  obtain⟨e',lO,_⟩:=g.dH id e he
  exact⟨by simp[lO],by rw[g.head id h1];exact h2⟩
 | .yM τ x n j,v,h=>by
  simp only[VR]at h ⊢
  obtain⟨cs,eH,h1,h2,h3,h4,h5⟩:=h
  obtain⟨e,he⟩:=rA.1 h4
  obtain⟨e',lO,_⟩:=g.dH j e he
  exact⟨cs,eH,h1,h2.aV k,by rw[g.head j h4];exact h3,by simp[lO],h5⟩
 | .emp,_,h=>by simpa [VR]using h
 | .ref id,_,h=>by
  simp only[VR]at h ⊢
  obtain⟨h1,h2⟩:=h
  obtain⟨e,he⟩:=rA.1 h1
  obtain⟨e',lO,_⟩:=g.dH id e he
  exact⟨by simp[lO],by rw[g.head id h1];exact h2⟩
 | .dQ id p,_,h=>by
  simp only[VR]at h ⊢
  obtain⟨e,he,ha⟩:=h
  obtain⟨e',lO,hl⟩:=g.dH id e he
  exact⟨e',lO,by rw[g.head id (by simp[he])];exact ha.fy hl⟩
 | .kW τ x,_,h=>by
  simp only[VR]at h ⊢
  obtain⟨b,off,rfl,hb,hm,cs,ha,hr⟩:=h
  exact⟨b,off,rfl,fP hb k.size,λh'=>hm (k.less b hb h'),cs,ha.aV (k.block b hb hm),hr.aV k⟩
 | .Sa vs,_,h=>by
  simp only[VR]at h ⊢
  obtain⟨us,rfl,h⟩:=h
  exact⟨us,rfl,eE.aV k g h⟩
 | .BD f kX,_,h=>by
  simp only[VR]at h ⊢
  obtain⟨us,rfl,h⟩:=h
  exact⟨us,rfl,eE.aV k g h⟩
theorem eE.aV{w w':World}{M M':Nat→Prop}{H H':Nat→Option az}{ν ν':Nat→Value}(k:cm w M w' M')(g:eI H ν H' ν'):
  ∀{as:List aF} {vs:List Value},eE w M H ν as vs→eE w' M' H' ν' as vs
 |[],[],_=>by simp[eE]
 |a::as,v::vs,h=>by simp only[eE]at h ⊢;exact⟨VR.aV k g h.1,eE.aV k g h.2⟩
 |[],_::_,h=>by simp[eE]at h
 |_::_,[],h=>by simp[eE]at h
end
end VM
end
section
namespace VM
open Go
structure Ctx where
 B:Nat
 w0:World
 M0:Nat→Prop
 may:Nat→Prop
 arg:Nat→Value
structure Mem(c:Ctx)(H:Nat→Option az)(w:World)(M:Nat→Prop)(ν:Nat→Value):Prop where
 dH: ∀i e,H i=some e→ER w M (ν i) e
 qv: ∀i j e e' b,i≠j→H i=some e→e.mut→H j=some e'→e'.mut→cn (ν i)=some b→cn (ν j)≠some b
 new: ∀i e b,H i=some e→e.mut→cn (ν i)=some b→c.B≤b∨c.may b
 qp: ∀i e l b,H i=some (.own e l)→cn (ν i)=some b→ ¬c.M0 b
 dj: ∀i τ x p j,H i=some (.dj τ x p j)→H j≠none∧ ∃b,ν i= .pointer (some ⟨b,0,none⟩)∧w.cell? ⟨b,bb p τ,none⟩=some (ν j)
 sub: ∀b,c.M0 b→M b
 qS: ∀b,M b→b<w.heap.size
 frame: ∀b,b<c.B→ ¬c.may b→w.heap[b]? =c.w0.heap[b]?
 size:c.B≤w.heap.size
 iT:(∀b,c.M0 b→b<c.B)∧ ∀b,c.may b→ ¬c.M0 b
 os:w.os=c.w0.os
 tape:w.tape=c.w0.tape
 output:w.output=c.w0.output
structure Tr(c:Ctx)(H:Nat→Option az)(w:World)(M:Nat→Prop)(ν:Nat→Value)(H':Nat→Option az)(w':World)(M':Nat→Prop)(ν':Nat→Value):Prop where
 mem:Mem c H' w' M' ν'
 aV:cm w M w' M'
 goes:eI H ν H' ν'
theorem az.fy.trans{a b d:az}(h:a.fy b)(k:b.fy d):a.fy d:=by
 cases a<;>cases b<;>cases d<;>simp only[az.fy]at h k ⊢ <;>first
  |exact h.trans k
  |exact⟨h.1.trans k.1,h.2.trans k.2⟩
theorem eI.trans{H H' Ns:Nat→Option az}{ν ν' ν'':Nat→Value}(h:eI H ν H' ν')(k:eI H' ν' Ns ν''):eI H ν Ns ν'':=by
 refine⟨λi e he=> ?_,λi hi=> ?_⟩
 ·obtain⟨e',lO,l⟩:=h.dH i e he
  obtain⟨e'',W9,l'⟩:=k.dH i e' lO
  exact⟨e'',W9,l.trans l'⟩
 ·obtain⟨e,he⟩:=rA.1 hi
  obtain⟨e',lO,_⟩:=h.dH i e he
  rw[k.head i (by simp[lO]),h.head i hi]
theorem Tr.trans{c:Ctx}{H H' Ns:Nat→Option az}{w w' SS:World}{M M' zm:Nat→Prop}{ν ν' ν'':Nat→Value}
  (h:Tr c H w M ν H' w' M' ν') (k:Tr c H' w' M' ν' Ns SS zm ν''):Tr c H w M ν Ns SS zm ν'':=
 ⟨k.mem,h.aV.trans k.aV,h.goes.trans k.goes⟩
theorem Tr.refl{c:Ctx}{H:Nat→Option az}{w:World}{M:Nat→Prop}{ν:Nat→Value}(h:Mem c H w M ν):Tr c H w M ν H w M ν:=
 ⟨h,.refl w M,.refl H ν⟩
theorem ag(H:Nat→Option az)(d:Nat)(v:Option az):aC H d v d=v:=by simp[aC]
theorem aj(H:Nat→Option az){d i:Nat}(v:Option az)(h:i≠d):aC H d v i=H i:=by
 have:Nat.beq i d=false:=by rw[←fQ,o9];exact h
 simp[aC,this]
theorem D5(ups:dR): ∀σ:St,(σ.pb ups).H=a8 σ.H ups:=by
 induction ups with
 |nil=>intro σ;rfl
 |cons u r ih=>intro σ;exact ih _
theorem D6(ups:dR): ∀σ:St,(σ.pb ups).T=σ.T:=by
 induction ups with
 |nil=>intro σ;rfl
 |cons u r ih=>intro σ;exact ih _
theorem cz(a b:dR): ∀H,a8 H (a++b)=a8 (a8 H a) b:=by
 induction a with
 |nil=>intro H;rfl
 |cons u r ih=>intro H;exact ih _
theorem pX{H:Nat→Option az}{id j:Nat}{v:az}(h:H j≠none):aC H id (some v) j≠none:=by
 by_cases hj:j=id
 ·subst hj;rw[ag];simp
 ·rw[aj _ _ hj];exact h
theorem Ab{H:Nat→Option az}{w:World}{ν:Nat→Value}(h: ∀i τ x p j,H i=some (.dj τ x p j)→H j≠none∧ ∃b,ν i= .pointer (some ⟨b,0,none⟩)∧w.cell? ⟨b,bb p τ,none⟩=some (ν j)){id:Nat}{v:az}(hv: ∀τ x p j,v≠ .dj τ x p j):
  ∀i τ x p j,aC H id (some v) i=some (.dj τ x p j)→aC H id (some v) j≠none∧ ∃b,ν i= .pointer (some ⟨b,0,none⟩)∧w.cell? ⟨b,bb p τ,none⟩=some (ν j):=by
 intro i τ x p j hi
 by_cases aI:i=id
 ·subst aI;rw[ag]at hi;cases hi;exact absurd rfl (hv _ _ _ _)
 ·rw[aj _ _ aI]at hi
  obtain⟨h1,h2⟩:=h i τ x p j hi
  exact⟨pX h1,h2⟩
theorem Tr.gone{c:Ctx}{H:Nat→Option az}{w:World}{M:Nat→Prop}{ν:Nat→Value}(h:Mem c H w M ν)(id:Nat):Tr c H w M ν (aC H id (some .gone)) w M ν:=by
 refine⟨⟨λi e he=> ?_,λi j e e' b jC hi hm hj eh=> ?_,λi e b hi hm=> ?_,λi e l b hi=> ?_,Ab h.dj (λ_ _ _ _=>by simp),h.sub,h.qS,h.frame,h.size,h.iT,h.os,h.tape,h.output⟩,.refl w M,⟨λi e he=> ?_,λ_ _=>rfl⟩⟩
 ·by_cases hid:i=id
  ·subst hid;rw[ag]at he;cases he;simp[ER]
  ·rw[aj _ _ hid]at he;exact h.dH i e he
 ·by_cases hid:i=id
  ·subst hid;rw[ag]at hi;cases hi;simp[az.mut]at hm
  ·by_cases Z3:j=id
   ·subst Z3;rw[ag]at hj;cases hj;simp[az.mut]at eh
   ·rw[aj _ _ hid]at hi;rw[aj _ _ Z3]at hj;exact h.qv i j e e' b jC hi hm hj eh
 ·by_cases hid:i=id
  ·subst hid;rw[ag]at hi;cases hi;simp[az.mut]at hm
  ·rw[aj _ _ hid]at hi;exact h.new i e b hi hm
 ·by_cases hid:i=id
  ·subst hid;rw[ag]at hi;cases hi
  ·rw[aj _ _ hid]at hi;exact h.qp i e l b hi
 ·by_cases hid:i=id
  ·subst hid;exact⟨.gone,ag _ _ _,by cases e<;>simp[az.fy]⟩
  ·exact⟨e,by rw[aj _ _ hid];exact he,.refl e⟩
theorem cell_of{w:World}{b:Nat}{cs:Array Value}{t:TypeId}{fz:Nat×Nat}(h:w.heap[b]? =some (.cells cs t fz))(o:Nat):w.cell? ⟨b,o,none⟩=cs[o]? :=by
 simp[World.cell?,h]
theorem At.of_block{w:World}{b:Nat}{cs:Array Value}{t:TypeId}{fz:Nat×Nat}(h:w.heap[b]? =some (.cells cs t fz))(o n:Nat):
  At w b o ((cs.toList.drop o).take n):=by
 intro j v hj
 rw[cell_of h]
 rw[gK]at hj
 split at hj
 ·rw[gL]at hj;simpa using hj
 ·cases hj
theorem lt_of_block{w:World}{b:Nat}{o:Obj}(h:w.heap[b]? =some o):b<w.heap.size:=(fO.1 h).1
theorem ER.aV{w w':World}{M M':Nat→Prop}{v:Value}(k:cm w M w' M'): ∀{e:az},
  (e.mut→ ∀b,cn v=some b→w'.heap[b]? =w.heap[b]? ∧M' b)→ER w M v e→ER w' M' v e
 | .obj τ x,hm,h=>by
  simp only[ER]at h ⊢
  obtain⟨b,cs,t,rfl,hb,hM,hr⟩:=h
  obtain⟨h1,h2⟩:=hm trivial b rfl
  exact⟨b,cs,t,rfl,h1.trans hb,h2,hr.aV k⟩
 | .dj τ x p j,hm,h=>by
  simp only[ER]at h ⊢
  obtain⟨b,cs,t,eH,u,rfl,hb,hM,hr,h3⟩:=h
  obtain⟨h1,h2⟩:=hm trivial b rfl
  exact⟨b,cs,t,eH,u,rfl,h1.trans hb,h2,hr.aV k,h3⟩
 | .own e l,hm,h=>by
  simp only[ER]at h ⊢
  rcases h with h|⟨b,cs,t,cap,rfl,hb,hM,hc,hl,vR,hs,hr⟩
  ·exact .inl h
  ·obtain⟨h1,h2⟩:=hm trivial b (by simp[cn];omega)
   exact .inr ⟨b,cs,t,cap,rfl,h1.trans hb,h2,hc,hl,vR,hs,λi hi=>(hr i hi).aV k⟩
 | .jk e l,_,h=>by
  simp only[ER]at h ⊢
  exact⟨h.1.aV k,h.2⟩
 | .cV _ _ _,_,_| .gone,_,_=>by simp[ER]
theorem ER.lP{w:World}{M:Nat→Prop}{v:Value}{e:az}(h:ER w M v e)(hm:e.mut){b:Nat}(hb:cn v=some b):M b:=by
 cases e with
 |obj τ x=>simp only[ER]at h;obtain⟨b',cs,t,hv,bT,hM,_⟩:=h;rw[hv]at hb;simp only[cn,cK]at hb;subst hb;exact hM
 |dj τ x p j=>simp only[ER]at h;obtain⟨b',cs,t,_,_,hv,bT,hM,_⟩:=h;rw[hv]at hb;simp only[cn,cK]at hb;subst hb;exact hM
 |own e1 l1=>
  simp only[ER]at h
  rcases h with⟨_,a,hv⟩|⟨b',cs,t,cap,hv,bT,hM,hc,_⟩
  ·rw[hv]at hb;cases a<;>simp[cn]at hb
  ·rw[hv]at hb;simp only[cn]at hb;split at hb
   ·cases hb
   ·simp only[cK]at hb;subst hb;exact hM
 |jk _ _=>simp[az.mut]at hm
 |cV _ _ _=>simp[az.mut]at hm
 |gone=>simp[az.mut]at hm
theorem Tr.freeze{c:Ctx}{H:Nat→Option az}{w:World}{M:Nat→Prop}{ν:Nat→Value}(h:Mem c H w M ν){id:Nat}{e:Ty}{l:List e.den}(hid:H id=some (.own e l)):
  ∃M',Tr c H w M ν (aC H id (some (.jk e l))) w M' ν∧V w M' (.slice e) (ν id) l∧ ∀b,M' b↔(M b∧cn (ν id)≠some b):=by
 have hk:cm w M w (λb=>M b∧cn (ν id)≠some b):=⟨aH _,λ_ _ _=>rfl,λ_ _ h=>h.1⟩
 have he:=h.dH id _ hid
 have fg:Rd w (λb=>M b∧cn (ν id)≠some b) (.slice e) [ν id] l:=by
  simp only[ER]at he
  simp only[Rd]
  rcases he with⟨rfl,a,hv⟩|⟨b,cs,t,cap,hv,hb,hM,hc,hl,vR,hs,hr⟩
  ·exact⟨a,0,by rw[hv];rfl,aH _,λi hi=>absurd hi (by simp)⟩
  ·refine⟨_,cap,by rw[hv],hl,λi hi=>⟨b,0,rfl,lt_of_block hb,λhm=>hm.2 (by rw[hv];simp[cn];omega),_,?_,(hr i hi).aV hk⟩⟩
   rw[c7]
   exact At.of_block hb _ _
 refine⟨λb=>M b∧cn (ν id)≠some b,⟨⟨λi e' hi=> ?_,λi j e1 e2 b jC hi hm hj eh=> ?_,λi e1 b hi hm=> ?_,λi e1 l1 b hi=> ?_,Ab h.dj (λ_ _ _ _=>by simp),λb hb=>⟨h.sub b hb,λhm=>h.qp id e l b hid hm hb⟩,λb hb=>h.qS b hb.1,h.frame,h.size,h.iT,h.os,h.tape,h.output⟩,hk,⟨λi e' hi=> ?_,λ_ _=>rfl⟩⟩,?_,λ_=>Iff.rfl⟩
 ·by_cases aI:i=id
  ·subst aI;rw[ag]at hi;cases hi
   simp only[ER]
   refine⟨fg,?_⟩
   simp only[ER]at he
   rcases he with⟨rfl,a,hv⟩|⟨b,cs,t,cap,hv,_⟩
   ·exact .inl ⟨rfl,a,0,0,hv⟩
   ·exact .inr ⟨b,_,cap,hv⟩
  ·rw[aj _ _ aI]at hi
   refine(h.dH i e' hi).aV hk (λhm b hb=>⟨rfl,?_,?_⟩)
   ·exact(h.dH i e' hi).lP hm hb
   ·exact h.qv i id e' (.own e l) b aI hi hm hid trivial hb
 ·by_cases aI:i=id
  ·subst aI;rw[ag]at hi;cases hi;simp[az.mut]at hm
  ·by_cases uj:j=id
   ·subst uj;rw[ag]at hj;cases hj;simp[az.mut]at eh
   ·rw[aj _ _ aI]at hi;rw[aj _ _ uj]at hj;exact h.qv i j e1 e2 b jC hi hm hj eh
 ·by_cases aI:i=id
  ·subst aI;rw[ag]at hi;cases hi;simp[az.mut]at hm
  ·rw[aj _ _ aI]at hi;exact h.new i e1 b hi hm
 ·by_cases aI:i=id
  ·subst aI;rw[ag]at hi;cases hi
  ·rw[aj _ _ aI]at hi;exact h.qp i e1 l1 b hi
 ·by_cases aI:i=id
  ·subst aI;rw[hid]at hi;cases hi;exact⟨_,ag _ _ _,rfl,rfl⟩
  ·exact⟨e',by rw[aj _ _ aI];exact hi,.refl e'⟩
 ·unfold V;rw[af (by simp[Ty.isAgg])];exact fg
theorem Tr.fix{c:Ctx}{H:Nat→Option az}{w:World}{M:Nat→Prop}{ν:Nat→Value}(h:Mem c H w M ν){id:Nat}{τ:Ty}{x:τ.den}(hid:H id=some (.obj τ x)):
  ∃M' b,Tr c H w M ν (aC H id (some .gone)) w M' ν∧ν id= .pointer (some ⟨b,0,none⟩)∧b<w.heap.size∧ ¬M' b∧ ∃cs,At w b 0 cs∧Rd w M' τ cs x:=by
 have he:=h.dH id _ hid
 simp only[ER]at he
 obtain⟨b0,cs,t,hv,hb,hM,hr⟩:=he
 have po:cn (ν id)=some b0:=by rw[hv];rfl
 have hk:cm w M w (λb=>M b∧b≠b0):=⟨aH _,λ_ _ _=>rfl,λ_ _ h=>h.1⟩
 have wW: ¬c.M0 b0:=λhm=>(h.new id _ b0 hid trivial po).elim (λhB=>by have:=h.iT.1 b0 hm;omega) (λhB=>h.iT.2 b0 hB hm)
 refine⟨λb=>M b∧b≠b0,b0,⟨⟨λi e' hi=> ?_,λi j e1 e2 b jC hi hm hj eh=> ?_,λi e1 b hi hm=> ?_,λi e1 l1 b hi=> ?_,Ab h.dj (λ_ _ _ _=>by simp),λb bT=>⟨h.sub b bT,λe=>wW (e▸bT)⟩,λb bT=>h.qS b bT.1,h.frame,h.size,h.iT,h.os,h.tape,h.output⟩,hk,⟨λi e' hi=> ?_,λ_ _=>rfl⟩⟩,hv,lt_of_block hb,λhm=>hm.2 rfl,cs.toList,?_,hr.aV hk⟩
 ·by_cases aI:i=id
  ·subst aI;rw[ag]at hi;cases hi;simp[ER]
  ·rw[aj _ _ aI]at hi
   refine(h.dH i e' hi).aV hk (λhm b bT=>⟨rfl,?_,?_⟩)
   ·exact(h.dH i e' hi).lP hm bT
   ·intro e
    exact h.qv i id e' (.obj τ x) b aI hi hm hid trivial bT (by rw[po,e])
 ·by_cases aI:i=id
  ·subst aI;rw[ag]at hi;cases hi;simp[az.mut]at hm
  ·by_cases uj:j=id
   ·subst uj;rw[ag]at hj;cases hj;simp[az.mut]at eh
   ·rw[aj _ _ aI]at hi;rw[aj _ _ uj]at hj;exact h.qv i j e1 e2 b jC hi hm hj eh
 ·by_cases aI:i=id
  ·subst aI;rw[ag]at hi;cases hi;simp[az.mut]at hm
  ·rw[aj _ _ aI]at hi;exact h.new i e1 b hi hm
 ·by_cases aI:i=id
  ·subst aI;rw[ag]at hi;cases hi
  ·rw[aj _ _ aI]at hi;exact h.qp i e1 l1 b hi
 ·by_cases aI:i=id
  ·subst aI;rw[hid]at hi;cases hi;exact⟨_,ag _ _ _,trivial⟩
  ·exact⟨e',by rw[aj _ _ aI];exact hi,.refl e'⟩
 ·have:=At.of_block hb 0 cs.toList.length
  rwa [bX,fR]at this
theorem so(w:World)(o:Obj):(w.alloc o).heap[w.heap.size]? =some o:=by
 show(w.heap.push o)[w.heap.size]? =some o
 simp
theorem fX(w:World)(o:Obj){i:Nat}(h:i<w.heap.size):(w.alloc o).heap[i]? =w.heap[i]? :=by
 show(w.heap.push o)[i]? =w.heap[i]?
 rw[Array.getElem?_push,af (Nat.ne_of_lt h)]
theorem size_alloc(w:World)(o:Obj):(w.alloc o).heap.size=w.heap.size+1:=by
 show(w.heap.push o).size=_
 simp
def updν(ν:Nat→Value)(d:Nat)(v:Value):Nat→Value:=λi=>if i=d then v else ν i
theorem iv{c:Ctx}{H:Nat→Option az}{w w':World}{M:Nat→Prop}{ν ν':Nat→Value}(h:Mem c H w M ν){H':Nat→Option az}
  (hν: ∀i,H i≠none→ν' i=ν i) (hn: ∀i,H i≠none→H' i≠none)
  (hi: ∀i τ x p j,H' i=some (.dj τ x p j)→(H i=some (.dj τ x p j)∧ ∀b,ν i= .pointer (some ⟨b,0,none⟩)→w'.heap[b]? =w.heap[b]?)∨(H' j≠none∧ ∃b,ν' i= .pointer (some ⟨b,0,none⟩)∧w'.cell? ⟨b,bb p τ,none⟩=some (ν' j))):
  ∀i τ x p j,H' i=some (.dj τ x p j)→H' j≠none∧ ∃b,ν' i= .pointer (some ⟨b,0,none⟩)∧w'.cell? ⟨b,bb p τ,none⟩=some (ν' j):=by
 intro i τ x p j he
 rcases hi i τ x p j he with⟨h1,hb⟩|h1
 ·obtain⟨h2,b,h3,h4⟩:=h.dj i τ x p j h1
  refine⟨hn j h2,b,by rw[hν i (by rw[h1];simp)];exact h3,?_⟩
  rw[hν j h2,World.cell?_of_block (w:=w) (hb b h3)]
  exact h4
 ·exact h1
theorem nH{H:Nat→Option az}{id:Nat}{v:az}: ∀i,H i≠none→aC H id (some v) i≠none:=λ_ h=>pX h
theorem sq{H:Nat→Option az}{id:Nat}{v:az}(hv: ∀τ x p j,v≠ .dj τ x p j){i:Nat}{τ:Ty}{x:τ.den}{p:List Step}{j:Nat}(h:aC H id (some v) i=some (.dj τ x p j)):H i=some (.dj τ x p j):=by
 by_cases aI:i=id
 ·subst aI;rw[ag]at h;cases h;exact absurd rfl (hv _ _ _ _)
 ·rw[aj _ _ aI]at h;exact h
theorem Tr.alloc{c:Ctx}{H:Nat→Option az}{w:World}{M:Nat→Prop}{ν:Nat→Value}(h:Mem c H w M ν){id:Nat}(hid:H id=none)(o:Obj)(v:Value)(e:az)(hm:e.mut)(zn: ∀τ x p j,e≠ .dj τ x p j)
  (hb:cn v=none∨cn v=some w.heap.size) (wX:ER (w.alloc o) (λb=>M b∨b=w.heap.size) v e):
  Tr c H w M ν (aC H id (some e)) (w.alloc o) (λb=>M b∨b=w.heap.size) (updν ν id v):=by
 have hk:cm w M (w.alloc o) (λb=>M b∨b=w.heap.size):=
  ⟨by rw[size_alloc];omega,λb hb _=>fX w o hb,λb hb h'=>h'.resolve_right ω⟩
 have hν: ∀i,i≠id→updν ν id v i=ν i:=λi hi=>by simp[updν,hi]
 have hνs:updν ν id v id=v:=by simp[updν]
 have c6: ∀i e' b,H i=some e'→e'.mut→cn (ν i)=some b→b<w.heap.size:=λi e' b hi eh bT=>h.qS b ((h.dH i e' hi).lP eh bT)
 refine⟨⟨λi e' hi=> ?_,λi j e1 e2 b jC hi fM hj kI=> ?_,λi e1 b hi fM=> ?_,λi e1 l1 b hi=> ?_,iv h (λi hi=>hν i (λe=>hi (e▸hid))) nH (λi τ x p j hi=> .inl ⟨sq zn hi,λb hb=>fX w o (c6 i _ b (sq zn hi) trivial (by rw[hb];rfl))⟩),λb hb=> .inl (h.sub b hb),λb bT=> ?_,λb cg nI=> ?_,?_,h.iT,h.os,h.tape,h.output⟩,hk,⟨λi e' hi=> ?_,λi hi=> ?_⟩⟩
 ·by_cases aI:i=id
  ·subst aI;rw[ag]at hi;cases hi;rw[hνs];exact wX
  ·rw[aj _ _ aI]at hi;rw[hν i aI]
   exact(h.dH i e' hi).aV hk λeh b bT=>⟨fX w o (c6 i e' b hi eh bT),.inl ((h.dH i e' hi).lP eh bT)⟩
 ·by_cases aI:i=id
  ·subst aI;rw[ag]at hi;cases hi;rw[hνs]
   intro cg
   have uj:j≠i:=cP jC
   rw[aj _ _ uj]at hj;rw[hν j uj]
   intro nI
   have:=c6 j e2 b hj kI nI
   rcases hb with hb|hb<;>rw[hb]at cg<;>simp at cg
   omega
  ·rw[aj _ _ aI]at hi;rw[hν i aI]
   by_cases uj:j=id
   ·subst uj;rw[hνs]
    intro cg nI
    have:=c6 i e1 b hi fM cg
    rcases hb with hb|hb<;>rw[hb]at nI<;>simp at nI
    omega
   ·rw[aj _ _ uj]at hj;rw[hν j uj];exact h.qv i j e1 e2 b jC hi fM hj kI
 ·by_cases aI:i=id
  ·subst aI;rw[hνs]
   intro cg
   rcases hb with hb|hb<;>rw[hb]at cg<;>simp at cg
   subst cg;exact .inl h.size
  ·rw[aj _ _ aI]at hi;rw[hν i aI];exact h.new i e1 b hi fM
 ·by_cases aI:i=id
  ·subst aI;rw[hνs]
   intro cg h0
   rcases hb with hb|hb<;>rw[hb]at cg<;>simp at cg
   have:=h.iT.1 b h0
   have:=h.size
   omega
  ·rw[aj _ _ aI]at hi;rw[hν i aI];exact h.qp i e1 l1 b hi
 ·rw[size_alloc]
  rcases bT with bT|bT
  ·have:=h.qS b bT;omega
  ·omega
 ·rw[fX w o (fP cg h.size)];exact h.frame b cg nI
 ·rw[size_alloc];have:=h.size;omega
 ·by_cases aI:i=id
  ·subst aI;rw[hid]at hi;cases hi
  ·exact⟨e',by rw[aj _ _ aI];exact hi,.refl e'⟩
 ·have aI:i≠id:=λe=>hi (e▸hid)
  exact hν i aI
theorem Tr.var{c:Ctx}{H:Nat→Option az}{w:World}{M:Nat→Prop}{ν:Nat→Value}(h:Mem c H w M ν){id:Nat}(hid:H id=none)(t:TypeId){τ:Ty}{cs:Array Value}{x:τ.den}(hr:Rd w M τ cs.toList x):
  Tr c H w M ν (aC H id (some (.obj τ x))) (w.alloc (.cells cs t)) (λb=>M b∨b=w.heap.size) (updν ν id (.pointer (some ⟨w.heap.size,0,none⟩))):=by
 refine Tr.alloc h hid _ _ _ trivial (λ_ _ _ _=>by simp) (.inr rfl) ?_
 simp only[ER]
 have hk:cm w M (w.alloc (.cells cs t)) (λb=>M b∨b=w.heap.size):=
  ⟨by rw[size_alloc];omega,λb hb _=>fX w _ hb,λb hb h'=>h'.resolve_right ω⟩
 exact⟨w.heap.size,cs,t,rfl,so w _,.inr rfl,hr.aV hk⟩
theorem Tr.row{c:Ctx}{H:Nat→Option az}{w:World}{M:Nat→Prop}{ν:Nat→Value}(h:Mem c H w M ν){id:Nat}(hid:H id=none)(t:TypeId){e:Ty}{cs:Array Value}{l:List e.den}{cap:Nat}
  (hl:l.length≤cap) (hm:cap≤maxLen) (hs:cs.size=cap*e.size) (hr: ∀i (hi:i<l.length),Rd w M e ((cs.toList.drop (i*e.size)).take e.size) l[i]):
  Tr c H w M ν (aC H id (some (.own e l))) (w.alloc (.cells cs t)) (λb=>M b∨b=w.heap.size) (updν ν id (.slice (some ⟨w.heap.size,0,none⟩) l.length cap)):=by
 have hk:cm w M (w.alloc (.cells cs t)) (λb=>M b∨b=w.heap.size):=
  ⟨by rw[size_alloc];omega,λb hb _=>fX w _ hb,λb hb h'=>h'.resolve_right ω⟩
 refine Tr.alloc h hid _ _ _ trivial (λ_ _ _ _=>by simp) ?_ ?_
 ·simp only[cn];split
  ·exact .inl rfl
  ·exact .inr rfl
 ·simp only[ER]
  by_cases hc:cap=0
  ·subst hc
   have SU:l=[]:=ij ω
   subst SU
   exact .inl ⟨rfl,_,rfl⟩
  ·exact .inr ⟨w.heap.size,cs,t,cap,rfl,so w _,.inr rfl,ω,hl,hm,hs,λi hi=>(hr i hi).aV hk⟩
theorem Tr.drew{c:Ctx}{H:Nat→Option az}{w:World}{M:Nat→Prop}{ν:Nat→Value}(h:Mem c H w M ν):Tr c H w M ν H w.drew M ν:=by
 have hk:cm w M w.drew M:=⟨aH _,λ_ _ _=>rfl,λ_ _ h=>h⟩
 exact⟨⟨λi e he=>(h.dH i e he).aV hk λhm b hb=>⟨rfl,(h.dH i e he).lP hm hb⟩,h.qv,h.new,h.qp,h.dj,h.sub,h.qS,h.frame,h.size,h.iT,h.os,h.tape,h.output⟩,hk,.refl H ν⟩
theorem size_setRow(w:World)(g:Nat)(cs:Array Value):(w.setRow g cs).heap.size=w.heap.size:=by simp[World.setRow]
theorem Tr.write{c:Ctx}{H:Nat→Option az}{w:World}{M:Nat→Prop}{ν:Nat→Value}(h:Mem c H w M ν){id:Nat}{e e':az}(hid:H id=some e)(hm:e.mut)(eh:e'.mut)(hl:e.fy e')
  {b:Nat} (hb:cn (ν id)=some b) {cs new:Array Value} {t:TypeId} (hg:w.heap[b]? =some (.cells cs t (0,0)))
  (wX: ∀M',cm w M (w.setRow b new) M'→M' b→ER (w.setRow b new) M' (ν id) e')
  (k5: ∀τ x p j,e'= .dj τ x p j→H j≠none∧ ∃b',ν id= .pointer (some ⟨b',0,none⟩)∧(w.setRow b new).cell? ⟨b',bb p τ,none⟩=some (ν j):=by intro _ _ _ _ h;cases h):
  Tr c H w M ν (aC H id (some e')) (w.setRow b new) M ν:=by
 have OQ:M b:=(h.dH id e hid).lP hm hb
 have hk:cm w M (w.setRow b new) M:=
  ⟨by rw[size_setRow];exact aH _,λb' _ hm=>setRow_other w b b' new (λe=>hm (e▸OQ)),λ_ _ h=>h⟩
 refine⟨⟨λi e1 hi=> ?_,λi j e1 e2 b1 jC hi fM hj kI=> ?_,λi e1 b1 hi fM=> ?_,λi e1 l1 b1 hi=> ?_,iv h (λ_ _=>rfl) nH (λi τ x p j hi=> ?_),h.sub,λb1 cg=>by rw[size_setRow];exact h.qS b1 cg,λb1 cg nI=> ?_,by rw[size_setRow];exact h.size,h.iT,h.os,h.tape,h.output⟩,hk,⟨λi e1 hi=> ?_,λi hi=>rfl⟩⟩
 ·by_cases aI:i=id
  ·subst aI;rw[ag]at hi;cases hi;exact wX M hk OQ
  ·rw[aj _ _ aI]at hi
   exact(h.dH i e1 hi).aV hk λfM b1 cg=>⟨setRow_other w b b1 new (λe'=>h.qv i id e1 e b1 aI hi fM hid hm cg (e'▸hb)),(h.dH i e1 hi).lP fM cg⟩
 ·by_cases aI:i=id
  ·subst aI;rw[ag]at hi;cases hi
   have uj:j≠i:=cP jC
   rw[aj _ _ uj]at hj
   exact h.qv i j e e2 b1 jC hid hm hj kI
  ·rw[aj _ _ aI]at hi
   by_cases uj:j=id
   ·subst uj;exact h.qv i j e1 e b1 jC hi fM hid hm
   ·rw[aj _ _ uj]at hj;exact h.qv i j e1 e2 b1 jC hi fM hj kI
 ·by_cases aI:i=id
  ·subst aI;exact h.new i e b1 hid hm
  ·rw[aj _ _ aI]at hi;exact h.new i e1 b1 hi fM
 ·by_cases aI:i=id
  ·subst aI;rw[ag]at hi;cases hi
   cases e with
   |own e0 l0=>exact h.qp i e0 l0 b1 hid
   |obj _ _=>simp[az.fy]at hl
   |dj _ _ _ _=>simp[az.fy]at hl
   |jk _ _=>simp[az.mut]at hm
   |cV _ _ _=>simp[az.mut]at hm
   |gone=>simp[az.mut]at hm
  ·rw[aj _ _ aI]at hi;exact h.qp i e1 l1 b1 hi
 ·by_cases aI:i=id
  ·subst aI;rw[ag]at hi;cases hi
   obtain⟨h1,h2⟩:=k5 _ _ _ _ rfl
   exact .inr ⟨pX h1,h2⟩
  ·rw[aj _ _ aI]at hi
   exact .inl ⟨hi,λb1 cg=>setRow_other w b b1 new (λe1=>h.qv i id _ e b1 aI hi trivial hid hm (by rw[cg];rfl) (e1▸hb))⟩
 ·rw[setRow_other w b b1 new]
  ·exact h.frame b1 cg nI
  ·intro SV;subst SV
   rcases h.new id e b1 hid hm hb with h'|h'
   ·omega
   ·exact nI h'
 ·by_cases aI:i=id
  ·subst aI;rw[hid]at hi;cases hi;exact⟨e',ag _ _ _,hl⟩
  ·exact⟨e1,by rw[aj _ _ aI];exact hi,.refl e1⟩
theorem Tr.rename{c:Ctx}{H:Nat→Option az}{w:World}{M:Nat→Prop}{ν:Nat→Value}(h:Mem c H w M ν){j id:Nat}{e e':Ty}{l:List e.den}{l':List e'.den}(hj:H j=some (.own e l))(hid:H id=none)
  {v:Value} (hb:cn v=none∨cn v=cn (ν j)) (wX:ER w M v (.own e' l')):
  Tr c H w M ν (aC (aC H j (some .gone)) id (some (.own e' l'))) w M (updν ν id v):=by
 have eX:j≠id:=λe=>by rw[e,hid]at hj;cases hj
 have h1:=(Tr.gone h j).mem
 have jV:aC H j (some .gone) id=none:=by rw[aj _ _ (cP eX)];exact hid
 have hν: ∀i,i≠id→updν ν id v i=ν i:=λi hi=>by simp[updν,hi]
 have hνs:updν ν id v id=v:=by simp[updν]
 refine⟨⟨λi e1 hi=> ?_,λi k e1 e2 b1 jC hi fM hk kI=> ?_,λi e1 b1 hi fM=> ?_,λi e1 l1 b1 hi=> ?_,iv h1 (λi hi=>hν i (λe=>hi (e▸jV))) nH (λi τ x p j hi=> .inl ⟨sq (λ_ _ _ _=>by simp) hi,λ_ _=>rfl⟩),h.sub,h.qS,h.frame,h.size,h.iT,h.os,h.tape,h.output⟩,.refl w M,⟨λi e1 hi=> ?_,λi hi=> ?_⟩⟩
 ·by_cases aI:i=id
  ·subst aI;rw[ag]at hi;cases hi;rw[hνs];exact wX
  ·rw[aj _ _ aI]at hi;rw[hν i aI];exact h1.dH i e1 hi
 ·by_cases aI:i=id
  ·subst aI;rw[ag]at hi;cases hi;rw[hνs]
   have yG:k≠i:=cP jC
   rw[aj _ _ yG]at hk;rw[hν k yG]
   intro cg
   rcases hb with hb|hb
   ·rw[hb]at cg;cases cg
   ·rw[hb]at cg
    by_cases Wi:k=j
    ·subst Wi;rw[ag]at hk;cases hk;simp[az.mut]at kI
    ·rw[aj _ _ Wi]at hk;exact h.qv j k _ e2 b1 (cP Wi) hj trivial hk kI cg
  ·rw[aj _ _ aI]at hi;rw[hν i aI]
   by_cases yG:k=id
   ·subst yG;rw[hνs]
    intro cg nI
    rcases hb with hb|hb
    ·rw[hb]at nI;cases nI
    ·rw[hb]at nI
     by_cases yQ:i=j
     ·subst yQ;rw[ag]at hi;cases hi;simp[az.mut]at fM
     ·rw[aj _ _ yQ]at hi;exact h.qv j i _ e1 b1 (cP yQ) hj trivial hi fM nI cg
   ·rw[aj _ _ yG]at hk;rw[hν k yG];exact h1.qv i k e1 e2 b1 jC hi fM hk kI
 ·by_cases aI:i=id
  ·subst aI;rw[hνs];intro cg
   rcases hb with hb|hb
   ·rw[hb]at cg;cases cg
   ·rw[hb]at cg;exact h.new j _ b1 hj trivial cg
  ·rw[aj _ _ aI]at hi;rw[hν i aI];exact h1.new i e1 b1 hi fM
 ·by_cases aI:i=id
  ·subst aI;rw[hνs];intro cg
   rcases hb with hb|hb
   ·rw[hb]at cg;cases cg
   ·rw[hb]at cg;exact h.qp j e l b1 hj cg
  ·rw[aj _ _ aI]at hi;rw[hν i aI];exact h1.qp i e1 l1 b1 hi
 ·by_cases yQ:i=j
  ·subst yQ;exact⟨.gone,by rw[aj _ _ eX,ag],by cases e1<;>simp[az.fy]⟩
  ·have aI:i≠id:=λe=>by rw[e,hid]at hi;cases hi
   exact⟨e1,by rw[aj _ _ aI,aj _ _ yQ];exact hi,.refl e1⟩
 ·exact hν i (λe=>hi (e▸hid))
theorem Tr.SW{c:Ctx}{H:Nat→Option az}{w:World}{M:Nat→Prop}{ν:Nat→Value}(h:Mem c H w M ν){id:Nat}{e e':az}(hid:H id=some e)(hm:e.mut)(eh:e'.mut)(hl:e.fy e')(iU: ∀e0 l0,e'≠ .own e0 l0)
  (wX:ER w M (ν id) e') (k5: ∀τ x p j,e'= .dj τ x p j→H j≠none∧ ∃b',ν id= .pointer (some ⟨b',0,none⟩)∧w.cell? ⟨b',bb p τ,none⟩=some (ν j)):
  Tr c H w M ν (aC H id (some e')) w M ν:=by
 refine⟨⟨λi e1 hi=> ?_,λi j e1 e2 b1 jC hi fM hj kI=> ?_,λi e1 b1 hi fM=> ?_,λi e1 l1 b1 hi=> ?_,iv h (λ_ _=>rfl) nH (λi τ x p j hi=> ?_),h.sub,h.qS,h.frame,h.size,h.iT,h.os,h.tape,h.output⟩,.refl w M,⟨λi e1 hi=> ?_,λi hi=>rfl⟩⟩
 ·by_cases aI:i=id
  ·subst aI;rw[ag]at hi;cases hi;exact wX
  ·rw[aj _ _ aI]at hi;exact h.dH i e1 hi
 ·by_cases aI:i=id
  ·subst aI;rw[ag]at hi;cases hi
   have uj:j≠i:=cP jC
   rw[aj _ _ uj]at hj
   exact h.qv i j e e2 b1 jC hid hm hj kI
  ·rw[aj _ _ aI]at hi
   by_cases uj:j=id
   ·subst uj;exact h.qv i j e1 e b1 jC hi fM hid hm
   ·rw[aj _ _ uj]at hj;exact h.qv i j e1 e2 b1 jC hi fM hj kI
 ·by_cases aI:i=id
  ·subst aI;exact h.new i e b1 hid hm
  ·rw[aj _ _ aI]at hi;exact h.new i e1 b1 hi fM
 ·by_cases aI:i=id
  ·subst aI;rw[ag]at hi;cases hi;exact absurd rfl (iU _ _)
  ·rw[aj _ _ aI]at hi;exact h.qp i e1 l1 b1 hi
 ·by_cases aI:i=id
  ·subst aI;rw[ag]at hi;cases hi
   obtain⟨h1,h2⟩:=k5 _ _ _ _ rfl
   exact .inr ⟨pX h1,h2⟩
  ·rw[aj _ _ aI]at hi;exact .inl ⟨hi,λ_ _=>rfl⟩
 ·by_cases aI:i=id
  ·subst aI;rw[hid]at hi;cases hi;exact⟨e',ag _ _ _,hl⟩
  ·exact⟨e1,by rw[aj _ _ aI];exact hi,.refl e1⟩
theorem Tr.nothing{c:Ctx}{w:World}{M:Nat→Prop}{ν:Nat→Value}{H:Nat→Option az}(h:Mem c H w M ν){id:Nat}(hid:H id=none)(e:Ty)(ad:Option Addr):
  Tr c H w M ν (aC H id (some (.own e []))) w M (updν ν id (.slice ad 0 0)):=by
 have hν: ∀i,i≠id→updν ν id (.slice ad 0 0) i=ν i:=λi hi=>by simp[updν,hi]
 have hνs:updν ν id (.slice ad 0 0) id= .slice ad 0 0:=by simp[updν]
 have hb:cn (.slice ad 0 0)=none:=by cases ad<;>simp[cn]
 refine⟨⟨λi e1 hi=> ?_,λi k e1 e2 b1 jC hi fM hk kI=> ?_,λi e1 b1 hi fM=> ?_,λi e1 l1 b1 hi=> ?_,iv h (λi hi=>hν i (λe=>hi (e▸hid))) nH (λi τ x p j hi=> .inl ⟨sq (λ_ _ _ _=>by simp) hi,λ_ _=>rfl⟩),h.sub,h.qS,h.frame,h.size,h.iT,h.os,h.tape,h.output⟩,.refl w M,⟨λi e1 hi=> ?_,λi hi=>hν i (λe=>hi (e▸hid))⟩⟩
 ·by_cases aI:i=id
  ·subst aI;rw[ag]at hi;cases hi;rw[hνs];simp only[ER];exact .inl ⟨trivial,ad,rfl⟩
  ·rw[aj _ _ aI]at hi;rw[hν i aI];exact h.dH i e1 hi
 ·by_cases aI:i=id
  ·subst aI;rw[hνs,hb];intro h';cases h'
  ·rw[aj _ _ aI]at hi;rw[hν i aI]
   by_cases yG:k=id
   ·subst yG;rw[hνs,hb];intro _ h';cases h'
   ·rw[aj _ _ yG]at hk;rw[hν k yG];exact h.qv i k e1 e2 b1 jC hi fM hk kI
 ·by_cases aI:i=id
  ·subst aI;rw[hνs,hb];intro h';cases h'
  ·rw[aj _ _ aI]at hi;rw[hν i aI];exact h.new i e1 b1 hi fM
 ·by_cases aI:i=id
  ·subst aI;rw[hνs,hb];intro h';cases h'
  ·rw[aj _ _ aI]at hi;rw[hν i aI];exact h.qp i e1 l1 b1 hi
 ·have aI:i≠id:=λe=>by rw[e,hid]at hi;cases hi
  exact⟨e1,by rw[aj _ _ aI];exact hi,.refl e1⟩
theorem aE{α:Type}{υ τ:Ty}{y:υ.den}{k:τ.den→Option α}{r:α}(h:bc υ τ y k=some r): ∃e:υ=τ,k (e▸y)=some r:=by
 unfold bc at h
 split at h
 ·rename_i e;exact⟨e,h⟩
 ·cases h
theorem bU{α:Type}{υ τ:Ty}{k:Option α}{r:α}(h:ef υ τ k=some r):υ=τ∧k=some r:=by
 unfold ef at h
 split at h
 ·rename_i e;exact⟨e,h⟩
 ·cases h
theorem V.slice{w:World}{M:Nat→Prop}{e:Ty}{v:Value}{l:List e.den}:V w M (.slice e) v l↔Rd w M (.slice e) [v] l:=by
 unfold V;rw[af (by simp[Ty.isAgg])]
def Fz(H H1:Nat→Option az):Prop:= ∀i,H1 i=H i∨ ∃e l,H i=some (.own e l)∧H1 i=some (.jk e l)
theorem Fz.refl(H:Nat→Option az):Fz H H:=λ_=> .inl rfl
theorem Fz.none{H H1:Nat→Option az}(h:Fz H H1){i:Nat}(hi:H i=none):H1 i=none:=by
 rcases h i with h'|⟨e,l,h',_⟩
 ·rw[h',hi]
 ·rw[hi]at h';cases h'
theorem Fz.obj{H H1:Nat→Option az}(h:Fz H H1){i:Nat}{τ:Ty}{x:τ.den}(hi:H i=some (.obj τ x)):H1 i=some (.obj τ x):=by
 rcases h i with h'|⟨e,l,h',_⟩
 ·rw[h',hi]
 ·rw[hi]at h';cases h'
theorem tp{H:Nat→Option az}{id:Nat}{e:Option az}(h:H id=e):aC H id e=H:=by
 funext i
 by_cases hi:i=id
 ·subst hi;rw[ag,h]
 ·rw[aj _ _ hi]
theorem fA{α:Type}{c:Ctx}{H H1:Nat→Option az}{w:World}{M:Nat→Prop}{ν:Nat→Value}(hz:Fz H H1)(hm:Mem c H1 w M ν){a:aF}{v:Value}(hv:VR w M H1 ν a v){τ:Ty}
  {k:τ.den→List Nat→dR→Option α} {r:α} (h:gS true a H τ k=some r):
  ∃y rd ups M',k y rd ups=some r∧Tr c H1 w M ν (a8 H1 ups) w M' ν∧V w M' τ v y∧Fz H (a8 H1 ups)∧ ∀i,rd.contains i=false→a8 H1 ups i=H1 i:=by
 unfold gS at h
 split at h
 ·
  obtain⟨e,h⟩:=aE h
  subst e
  simp only[VR]at hv
  exact⟨_,[],[],M,h,.refl hm,hv,hz,λ_ _=>rfl⟩
 ·
  obtain⟨e,h⟩:=aE h
  subst e
  simp only[VR]at hv
  exact⟨_,[],[],M,h,.refl hm,hv.1,hz,λ_ _=>rfl⟩
 ·
  split at h
  ·rename_i e k' _
   simp only[VR]at hv
   obtain⟨a,rfl⟩:=hv
   refine⟨[],[],[],M,h,.refl hm,V.slice.2 ?_,hz,λ_ _=>rfl⟩
   simp only[Rd]
   exact⟨a,0,rfl,aH _,λi hi=>absurd hi (by simp)⟩
  ·cases h
 ·rename_i id
  simp only[VR]at hv
  obtain⟨_,rfl⟩:=hv
  split at h
  ·rename_i e l hid
   obtain⟨e',h⟩:=aE h
   subst e'
   rcases hz id with h1|⟨e1,l1,h1,h2⟩
   ·rw[hid]at h1
    obtain⟨M',df,hV,_⟩:=Tr.freeze hm h1
    refine⟨_,_,_,M',h,df,hV,λi=> ?_,λi hi=>aj _ _ (by simpa using hi)⟩
    show aC H1 id (some (.jk e l)) i=H i∨_
    by_cases hi:i=id
    ·subst hi;exact .inr ⟨e,l,hid,ag _ _ _⟩
    ·rw[aj _ _ hi]
     rcases hz i with h'|⟨e2,l2,h2,h3⟩
     ·exact .inl h'
     ·exact .inr ⟨e2,l2,h2,by show aC H1 id _ i=_;rw[aj _ _ hi];exact h3⟩
   ·rw[hid]at h1;cases h1
    have:=hm.dH id _ h2
    simp only[ER]at this
    refine⟨_,_,[(id,some (.jk e l))],M,h,?_,V.slice.2 this.1,?_,λi hi=>aj _ _ (by simpa using hi)⟩
    ·show Tr c H1 w M ν (aC H1 id (some (.jk e l))) w M ν
     rw[tp h2];exact .refl hm
    ·show Fz H (aC H1 id (some (.jk e l)))
     rw[tp h2];exact hz
  ·rename_i e l hid
   obtain⟨e',h⟩:=aE h
   subst e'
   have h1:H1 id=some (.jk e l):=by
    rcases hz id with h1|⟨e1,l1,h1,h2⟩
    ·rw[h1,hid]
    ·rw[hid]at h1;cases h1
   have:=hm.dH id _ h1
   simp only[ER]at this
   exact⟨_,_,_,M,h,.refl hm,V.slice.2 this.1,hz,λ_ _=>rfl⟩
  ·cases h
 ·cases h
def Src(w:World)(M:Nat→Prop)(e:Ty)(v:Value)(l:List e.den):Prop:=
 ∃a cap,v= .slice a l.length cap∧ ∀i (h:i<l.length),∃b off cs,a=some ⟨b,off,none⟩∧At w b (off+i*e.size) cs∧Rd w M e cs l[i]
theorem Src.OR{w:World}{M:Nat→Prop}{e:Ty}{v:Value}{l:List e.den}(h:V w M (.slice e) v l):Src w M e v l:=by
 have h:=V.slice.1 h
 simp only[Rd,cM,cT]at h
 obtain⟨a,cap,rfl,_,hr⟩:=h
 refine⟨a,cap,rfl,λi hi=> ?_⟩
 obtain⟨b,off,ha,_,_,cs,lK,fg⟩:=hr i hi
 exact⟨b,off,cs,ha,lK,fg⟩
theorem uk{α:Type}{c:Ctx}{H:Nat→Option az}{w:World}{M:Nat→Prop}{ν:Nat→Value}(hm:Mem c H w M ν){a:aF}{v:Value}(hv:VR w M H ν a v){e:Ty}
  {k:List e.den→List Nat→dR→Option α} {r:α} (h:gS false a H (.slice e) k=some r):
  ∃y rd,k y rd []=some r∧Src w M e v y:=by
 unfold gS at h
 split at h
 ·obtain⟨e',h⟩:=aE h
  subst e'
  simp only[VR]at hv
  exact⟨_,[],h,.OR hv⟩
 ·obtain⟨e',h⟩:=aE h
  subst e'
  simp only[VR]at hv
  exact⟨_,[],h,.OR hv.1⟩
 ·have h:k [] [] []=some r:=h
  simp only[VR]at hv
  obtain⟨a,rfl⟩:=hv
  exact⟨[],[],h,a,0,rfl,λi hi=>absurd hi (by simp)⟩
 ·rename_i id
  simp only[VR]at hv
  obtain⟨_,rfl⟩:=hv
  split at h
  ·rename_i e1 l hid
   obtain⟨e',h⟩:=aE h
   cases e'
   refine⟨_,_,h,?_⟩
   have:=hm.dH id _ hid
   simp only[ER]at this
   rcases this with⟨rfl,a,hv⟩|⟨b,cs,t,cap,hv,hb,hM,hc,hl,vR,hs,hr⟩
   ·exact⟨a,0,hv,λi hi=>absurd hi (by simp)⟩
   ·refine⟨_,cap,hv,λi hi=>⟨b,0,_,rfl,?_,hr i hi⟩⟩
    rw[c7]
    exact At.of_block hb _ _
  ·rename_i e1 l hid
   obtain⟨e',h⟩:=aE h
   cases e'
   have:=hm.dH id _ hid
   simp only[ER]at this
   exact⟨_,_,h,.OR (V.slice.2 this.1)⟩
  ·cases h
 ·cases h
theorem Src.cells{w:World}{M:Nat→Prop}{e:Ty}{v:Value}{l:List e.den}(h:Src w M e v l)(eX:l≠[]):
  ∃b off cap news,v= .slice (some ⟨b,off,none⟩) l.length cap∧news.length=l.length*e.size∧At w b off news∧
   (∀i (hi:i<l.length),Rd w M e ((news.drop (i*e.size)).take e.size) l[i])∧ ∀u∈news,u.oneCell'=true:=by
 obtain⟨a,cap,rfl,hr⟩:=h
 have h0:0<l.length:=mT.2 eX
 obtain⟨b,off,_,ha,_⟩:=hr 0 h0
 subst ha
 have key: ∀n,n≤l.length→ ∃news:List Value,news.length=n*e.size∧At w b off news∧
   (∀i (hi:i<l.length),i<n→Rd w M e ((news.drop (i*e.size)).take e.size) l[i])∧ ∀u∈news,u.oneCell'=true:=by
  intro n
  induction n with
  |zero=>exact λ_=>⟨[],by simp,λj v hj=>by simp at hj,λi _ hi=>ω,by simp⟩
  |succ n ih=>
   intro hn
   obtain⟨news,hl,lK,fg,tq⟩:=ih ω
   obtain⟨b',abU,cs,ha,Xa,F4⟩:=hr n ω
   cases ha
   refine⟨news++cs,by rw[aO,hl,F4.length,cr,fi],At.append.2 ⟨lK,by rw[hl];exact Xa⟩,λi hi jl=> ?_,λu hu=> ?_⟩
   ·by_cases c6:i<n
    ·have h1:(i+1)*e.size≤n*e.size:=eB _ c6
     rw[cr,fi]at h1
     rw[rz ω,ry (by rw[dn];omega)]
     exact fg i hi c6
    ·obtain rfl:i=n:=ω
     rw[jj hl,dI (by rw[F4.length];exact aH _)]
     exact F4
   ·rcases bt.1 hu with hu|hu
    ·exact tq u hu
    ·exact F4.fU u hu
 obtain⟨news,hl,lK,fg,tq⟩:=key l.length (aH _)
 exact⟨b,off,cap,news,rfl,hl,lK,λi hi=>fg i hi hi,tq⟩
structure Core(c:Ctx)(σ:St)(tm:Array Value)(w:World)(M:Nat→Prop)(ν:Nat→Value):Prop where
 mem:Mem c σ.H w M ν
 tmp: ∀i,VR w M σ.H ν (σ.T i) (tm.getD i undef)
theorem F5(w:World)(M:Nat→Prop)(H:Nat→Option az)(ν:Nat→Value)(v:Value):VR w M H ν (W4 v) v:=by
 unfold W4
 split<;>simp[VR,V,Ty.isAgg,Rd]
theorem Core.op{c:Ctx}{σ:St}{tm:Array Value}{w:World}{M:Nat→Prop}{ν:Nat→Value}(h:Core c σ tm w M ν)(ds:List Deferred)(x:Operand):
  VR w M σ.H ν (σ.ρ x) (({tmps:=tm,defers:=ds}:Act).eval x):=by
 cases x with
 |tmp t=>exact h.tmp t
 |const v=>exact F5 w M σ.H ν v
 |global g=>simp[St.ρ,VR]
 |func f=>simp[St.ρ,VR,eE,Act.eval]
def SX(P:Program)(t:TypeId)(τ:Ty):Prop:=
 ∀(w:World) (M:Nat→Prop) (u v:Value) (x y:τ.den) (b:BinOp) (xo yo:Operand),V w M τ u x→V w M τ v y→
  (eqGuard b t xo yo u v).run P w= .ok () w∧(binOp .eql t u v).run P w= .ok (.bool (mg τ x y)) w∧(binOp .neq t u v).run P w= .ok (.bool (!mg τ x y)) w
structure EnvTy(P:Program)(E:Env):Prop where
 ty: ∀t τ,E.ty t=some τ→fe P τ t
 eq: ∀t τ,E.ty t=some τ→τ.comparable=true→τ.isAgg=true→SX P t τ
end VM
end
section
namespace VM
open Go
variable{P:Program}
theorem sr{o:Oper}{ρ:Operand→Value}{t:TypeId}{i:TypeInfo}{z:Value}(ho:o.op= .alloc t)(hi:P.info? t=some i)(hz:i.zero=some z)(w:World):
  (execOp ρ o).run P w= .ok (.value (.pointer (some ⟨w.heap.size,0,none⟩))) (w.alloc (.cells z.cells t)):=by
 simp[execOp,ho,Instr.alloc,zeroValue,typeInfo,hi,hz,newVar,newRow]
theorem wY{o:Oper}{ρ:Operand→Value}{t:TypeId}{x:Operand}(ho:o.op= .box t x)(w:World):
  (execOp ρ o).run P w= .ok (.value (.pointer (some ⟨w.heap.size,0,none⟩))) (w.alloc (.cells (ρ x).cells t)):=by
 simp[execOp,ho,Instr.box,newVar,newRow]
theorem kJ{τ:Ty}{t:TypeId}(h:fe P τ t)(w:World):(isAgg t).run P w= .ok τ.isAgg w:=by
 unfold fe at h
 cases τ<;>simp only[dk]at h
 ·simp[isAgg,run_underlying h.2,Ty.isAgg]
 ·simp[isAgg,run_underlying h.2,Ty.isAgg]
 ·simp[isAgg,run_underlying h.2,Ty.isAgg]
 ·obtain⟨_,e',h',_⟩:=h;simp[isAgg,run_underlying h',Ty.isAgg]
 ·obtain⟨_,e',h',_⟩:=h;simp[isAgg,run_underlying h',Ty.isAgg]
 ·obtain⟨_,e',f,h',_⟩:=h;simp[isAgg,run_underlying h',Ty.isAgg]
 ·obtain⟨_,e',h',_⟩:=h;simp[isAgg,run_underlying h',Ty.isAgg]
theorem bL{τ:Ty}{t:TypeId}(h:fe P τ t)(w:World):(Go.sizeOf t).run P w= .ok τ.size w:=by
 obtain⟨i,hi,hs,_⟩:=h.base
 simp[Go.sizeOf,typeInfo,hi,hs]
theorem um{w:World}{M:Nat→Prop}{τ:Ty}{t:TypeId}(h:fe P τ t){b off:Nat}{cs:List Value}{x:τ.den}(ha:At w b off cs)(hr:Rd w M τ cs x):
  (loadVar t ⟨b,off,none⟩).run P w= .ok (aK τ cs) w:=by
 have hl:(loadCells ⟨b,off,none⟩ τ.size).run P w= .ok cs.toArray w:=by
  rw[←hr.length]
  exact run_loadCells_list w _ cs λj v hj=>by rw[show(⟨b,off,none⟩:Addr).add j=⟨b,off+j,none⟩from by unfold Addr.add;split<;>simp_all];exact ha j v hj
 unfold aK
 by_cases wZ:τ.isAgg=true
 ·simp[loadVar,kJ h,wZ,bL h,hl]
 ·obtain⟨v,rfl,hc⟩:=hr.scalar (by simpa using wZ)
  have h0:=ha 0 v rfl
  simp only[gr]at h0
  simp[loadVar,kJ h,wZ,load,Sem.run,h0]
theorem uq{w:World}{τ:Ty}{t:TypeId}(h:fe P τ t)(wZ:τ.isAgg=true){b off:Nat}{cs:List Value}(ha:At w b off cs)(hl:cs.length=τ.size):
  (loadVar t ⟨b,off,none⟩).run P w= .ok (.agg cs.toArray) w:=by
 have hl:(loadCells ⟨b,off,none⟩ τ.size).run P w= .ok cs.toArray w:=by
  rw[←hl]
  exact run_loadCells_list w _ cs λj v hj=>by rw[show(⟨b,off,none⟩:Addr).add j=⟨b,off+j,none⟩from by unfold Addr.add;split<;>simp_all];exact ha j v hj
 simp[loadVar,kJ h,wZ,bL h,hl]
theorem w3{o:Oper}{ρ:Operand→Value}{t:TypeId}{x:Operand}(ho:o.op= .load t x){w:World}{τ:Ty}(h:fe P τ t)(wZ:τ.isAgg=true){b off:Nat}{cs:List Value}
  (hx:ρ x= .pointer (some ⟨b,off,none⟩)) (ha:At w b off cs) (hl:cs.length=τ.size):
  (execOp ρ o).run P w= .ok (.value (.agg cs.toArray)) w:=by
 simp[execOp,ho,hx,Instr.loadAt,Instr.sureAddr,uq h wZ ha hl]
theorem pq{o:Oper}{ρ:Operand→Value}{t:TypeId}{x:Operand}(ho:o.op= .load t x){w:World}{M:Nat→Prop}{τ:Ty}(h:fe P τ t){b off:Nat}{cs:List Value}{y:τ.den}
  (hx:ρ x= .pointer (some ⟨b,off,none⟩)) (ha:At w b off cs) (hr:Rd w M τ cs y):
  (execOp ρ o).run P w= .ok (.value (aK τ cs)) w:=by
 simp[execOp,ho,hx,Instr.loadAt,Instr.sureAddr,um h ha hr]
theorem eF{o:Oper}{ρ:Operand→Value}{t:TypeId}{x y:Operand}(ho:o.op= .store t x y){w:World}{τ:Ty}(h:fe P τ t){b off:Nat}{cur:Array Value}{te:TypeId}
  (hx:ρ x= .pointer (some ⟨b,off,none⟩)) (hg:w.heap[b]? =some (.cells cur te (0,0))) (hs:(ρ y).cells.size=τ.size) (hf:off+τ.size≤cur.size) (h1: ∀v∈(ρ y).cells.toList,v.oneCell'=true):
  (execOp ρ o).run P w= .ok .skip (w.setRow b (cur.toList.take off++(ρ y).cells.toList++cur.toList.drop (off+(ρ y).cells.toList.length)).toArray):=by
 have zo:=run_storeCells_at (P:=P) b off te (ρ y).cells.toList 0 cur w hg (by simp[hs];omega) h1
 simp only[gr]at zo
 simp[execOp,ho,hx,Instr.storeAt,Instr.sureAddr,storeVar,bL h,hs,zo]
theorem m8{o:Oper}{ρ:Operand→Value}{t:TypeId}{x:Operand}{n:Nat}(ho:o.op= .fieldAddr t x n){w:World}{fs:Array Field}{f:Field}{b off:Nat}{υ:Ty}
  (hu:P.underlying t=some (.struct fs)) (hf:fs[n]? =some f) (hl:fe P υ f.type) (hz:υ.size≠0) (hx:ρ x= .pointer (some ⟨b,off,none⟩)):
  ∃a,(execOp ρ o).run P w= .ok (.value a) w∧a= .pointer (some ⟨b,off+f.offset,none⟩):=by
 refine⟨_,?_,rfl⟩
 simp[execOp,ho,hx,Instr.fieldAt,Instr.sureAddr,run_underlying hu,hf,fieldPlace,Addr.add_lit,bL hl,hz]
theorem ss{τ:Ty}{t:TypeId}(h:fe P τ t){w:World}{M:Nat→Prop}{cs:Array Value}{off:Nat}{x:τ.den}(hr:Rd w M τ ((cs.toList.drop off).take τ.size) x):
  (part t cs off).run P w= .ok (aK τ ((cs.toList.drop off).take τ.size)) w:=by
 have hl:=hr.length
 unfold aK
 by_cases wZ:τ.isAgg=true
 ·simp only[part,Sem.run_bind,kJ h,Result.andThen_ok,wZ,ed,bL h]
  simp
  rw[a7,dn,aJ]at hl
  apply eb
  simp only[Array.toList_extract,List.extract_eq_take_drop,rF]
 ·obtain⟨v,hv,hc⟩:=hr.scalar (by simpa using wZ)
  rw[hv]
  have h0:cs[off]? =some v:=by
   have:=gv (λl=>l[0]?) hv
   simp only[gK,gL]at this
   split at this
   ·simpa using this
   ·simp at this
  simp[part,kJ h,wZ,h0]
theorem Ac{o:Oper}{ρ:Operand→Value}{t:TypeId}{x:Operand}{n:Nat}(ho:o.op= .field t x n){w:World}{M:Nat→Prop}{fs:Array Field}{f:Field}{cs:Array Value}{υ:Ty}{y:υ.den}
  (hu:P.underlying t=some (.struct fs)) (hf:fs[n]? =some f) (hl:fe P υ f.type) (hx:ρ x= .agg cs) (hr:Rd w M υ ((cs.toList.drop f.offset).take υ.size) y):
  (execOp ρ o).run P w= .ok (.value (aK υ ((cs.toList.drop f.offset).take υ.size))) w:=by
 simp[execOp,ho,hx,Instr.field,run_underlying hu,hf,asAgg,ss hl hr]
theorem ec{o:Oper}{ρ:Operand→Value}{t e:TypeId}{x i:Operand}(ho:o.op= .indexAddr t x i){w:World}{τe:Ty}{b off len cap:Nat}{k:IntKind}{n:Int}
  (hu:P.underlying t=some (.slice e)) (he:fe P τe e) (hx:ρ x= .slice (some ⟨b,off,none⟩) len cap) (hi:ρ i= .int k n) (h0:0≤n) (h1:n<(len:Int)):
  (execOp ρ o).run P w= .ok (.value (.pointer (some ⟨b,off+n.toNat*τe.size,none⟩))) w:=by
 simp[execOp,ho,hx,hi,Instr.indexAt,asIntOf,run_underlying hu,h0,h1,bL he,Addr.add_lit]
theorem mq{o:Oper}{ρ:Operand→Value}{t e:TypeId}{x i:Operand}(ho:o.op= .indexAddr t x i){w:World}{τe:Ty}{b off len:Nat}{k:IntKind}{n:Int}
  (hu:P.underlying t=some (.array len e)) (he:fe P τe e) (hx:ρ x= .pointer (some ⟨b,off,none⟩)) (hi:ρ i= .int k n) (h0:0≤n) (h1:n<(len:Int)):
  (execOp ρ o).run P w= .ok (.value (.pointer (some ⟨b,off+n.toNat*τe.size,none⟩))) w:=by
 simp[execOp,ho,hx,hi,Instr.indexAt,Instr.sureAddr,asIntOf,run_underlying hu,h0,h1,bL he,Addr.add_lit]
theorem yR{o:Oper}{ρ:Operand→Value}{t e:TypeId}{x i:Operand}(ho:o.op= .index t x i){w:World}{M:Nat→Prop}{τe:Ty}{len:Nat}{k:IntKind}{n:Int}{cs:Array Value}{y:τe.den}
  (hu:P.underlying t=some (.array len e)) (he:fe P τe e) (hx:ρ x= .agg cs) (hi:ρ i= .int k n) (h0:0≤n) (h1:n<(len:Int)) (hr:Rd w M τe ((cs.toList.drop (n.toNat*τe.size)).take τe.size) y):
  (execOp ρ o).run P w= .ok (.value (aK τe ((cs.toList.drop (n.toNat*τe.size)).take τe.size))) w:=by
 simp[execOp,ho,hx,hi,Instr.index,asIntOf,run_underlying hu,h0,h1,bL he,ss he hr]
theorem w4{o:Oper}{ρ:Operand→Value}{x:Operand}{n:Nat}(ho:o.op= .extract x n){w:World}{us:List Value}{v:Value}(hx:ρ x= .tuple us.toArray)(hv:us[n]? =some v):
  (execOp ρ o).run P w= .ok (.value v) w:=by
 simp[execOp,ho,hx,Instr.extract,hv]
theorem BL{o:Oper}{ρ:Operand→Value}{x y z:Operand}(ho:o.op= .pick x y z){w:World}{b:Bool}(hx:ρ x= .bool b):
  (execOp ρ o).run P w= .ok (.value (if b then ρ y else ρ z)) w:=by
 simp[execOp,ho,hx,asBool]
theorem ox{o:Oper}{ρ:Operand→Value}{x:Operand}(ho:o.op= .nilCheck x){w:World}{a:Addr}(hx:ρ x= .pointer (some a)):
  (execOp ρ o).run P w= .ok (.value (.pointer (some a))) w:=by
 simp[execOp,ho,hx]
theorem vm{o:Oper}{ρ:Operand→Value}{f:FuncId}{first kX:Array Operand}(ho:o.op= .makeFunc (.func f) first kX)(hf:first= #[]){w:World}:
  (execOp ρ o).run P w= .ok (.value (.func (.func f) #[] (kX.map ρ))) w:=by
 subst hf
 simp[execOp,ho,Instr.makeFunc]
theorem w5{o:Oper}{ρ:Operand→Value}{s d:TypeId}{x:Operand}(ho:o.op= .convert s d x){w:World}{k k':IntKind}{n:Int}(hs:(P.underlying s).isSome=true)(hd:P.underlying d=some (.int k))(hx:ρ x= .int k' n):
  (execOp ρ o).run P w= .ok (.value (.int k (k.wrap n))) w:=by
 obtain⟨ds,hs⟩:=Option.isSome_iff_exists.1 hs
 simp[execOp,ho,hx,convert,run_underlying hs,run_underlying hd,Conv.intToInt]
theorem pt{o:Oper}{ρ:Operand→Value}{u:UnOp}{t:TypeId}{x:Operand}(ho:o.op= .unOp u t x){w:World}{v:Value}(h:(Op.unary u (ρ x)).run P w= .ok v w):
  (execOp ρ o).run P w= .ok (.value v) w:=by
 simp[execOp,ho,h]
theorem ky{o:Oper}{ρ:Operand→Value}{b:BinOp}{t t':TypeId}{x y:Operand}(ho:o.op= .binOp b t x y t'){w:World}{v:Value}
  (hg:(eqGuard b t x y (ρ x) (ρ y)).run P w= .ok () w) (h:(binOp b t (ρ x) (ρ y)).run P w= .ok v w):
  (execOp ρ o).run P w= .ok (.value v) w:=by
 simp[execOp,ho,hg,h]
theorem jW{b:BinOp}{t:TypeId}{x y:Operand}{k k':IntKind}{m n:Int}(w:World):(eqGuard b t x y (.int k m) (.int k' n)).run P w= .ok () w:=by
 cases b<;>simp[eqGuard]
theorem tu{b:BinOp}{t:TypeId}{x y:Operand}{m n:Bool}(w:World):(eqGuard b t x y (.bool m) (.bool n)).run P w= .ok () w:=by
 cases b<;>simp[eqGuard]
theorem vn{b:BinOp}{t:TypeId}{x y:Operand}{m n:ByteArray}(w:World):(eqGuard b t x y (.string m) (.string n)).run P w= .ok () w:=by
 cases b<;>simp[eqGuard]
theorem iw{o:Oper}{ρ:Operand→Value}{b:Builtin}{args:Array Operand}{ts:Array TypeId}(ho:o.op= .call {callee:= .builtin b,args,argTypes:=ts}){w:World}:
  ∃cs,(execOp ρ o).run P w=(builtin b ts o.type cs (args.map ρ)).run P w:=by
 refine⟨args.map fun| .const _=>true|_=>false,?_⟩
 simp[execOp,ho,resolve,invoke]
 rfl
end VM
end
