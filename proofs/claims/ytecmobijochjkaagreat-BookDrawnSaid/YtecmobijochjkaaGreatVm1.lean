/- A part of the proof of BookDrawn of layer 18: a machine that reads a function of the program as an equation between values. -/
import Derived.Test.YtecmobijochjkaaGreatVm0
import Derived.WalkLawsBesides
set_option linter.all false
open List renaming getD→γ
section
namespace VM
open Go
def Ly(P:Program)(τ:Ty)(t:TypeId):Prop:=
 ∃i,P.info? t=some i∧i.size=τ.size∧i.zero=some (ck τ τ.cI)∧i.bytes≤2048
def gD(P:Program):Ty→TypeId ⊕ (Array Field×Nat×Nat)→Prop
 | .int k,.inl t=>Ly P (.int k) t∧P.underlying t=some (.int k)
 | .bool,.inl t=>Ly P .bool t∧P.underlying t=some .bool
 | .str,.inl t=>Ly P .str t∧P.underlying t=some .string
 | .slice e,.inl t=>Ly P (.slice e) t∧ ∃e',P.underlying t=some (.slice e')∧gD P e (.inl e')
 | .arr n e,.inl t=>Ly P (.arr n e) t∧ ∃e',P.underlying t=some (.array n e')∧gD P e (.inl e')
 | .unit,.inl t=>Ly P .unit t∧ ∃fs,P.underlying t=some (.struct fs)∧fs.size=0
 | .unit,.inr (fs,n,_)=>fs.size=n
 | .pair a b,.inl t=>Ly P (.pair a b) t∧ ∃fs f,P.underlying t=some (.struct fs)∧fs[0]? =some f∧f.offset=0∧gD P a (.inl f.type)∧gD P b (.inr (fs,1,a.size))
 | .pair a b,.inr (fs,n,off)=> ∃f,fs[n]? =some f∧f.offset=off∧gD P a (.inl f.type)∧gD P b (.inr (fs,n+1,off+a.size))
 |_,.inr _=>False
def kZ(P:Program)(τ:Ty)(t:TypeId):Prop:=gD P τ (.inl t)
theorem kZ.base{P:Program}{τ:Ty}{t:TypeId}(h:kZ P τ t):Ly P τ t:=by
 unfold kZ at h;cases τ<;>simp only[gD]at h<;>exact h.1
theorem kZ.int{P:Program}{k:IntKind}{t:TypeId}(h:kZ P (.int k) t):P.underlying t=some (.int k):=by simp only[kZ,gD]at h;exact h.2
theorem kZ.bool{P:Program}{t:TypeId}(h:kZ P .bool t):P.underlying t=some .bool:=by simp only[kZ,gD]at h;exact h.2
theorem kZ.str{P:Program}{t:TypeId}(h:kZ P .str t):P.underlying t=some .string:=by simp only[kZ,gD]at h;exact h.2
theorem kZ.slice{P:Program}{e:Ty}{t:TypeId}(h:kZ P (.slice e) t): ∃e',P.underlying t=some (.slice e')∧kZ P e e':=by simp only[kZ,gD]at h;exact h.2
theorem kZ.arr{P:Program}{n:Nat}{e:Ty}{t:TypeId}(h:kZ P (.arr n e) t): ∃e',P.underlying t=some (.array n e')∧kZ P e e':=by simp only[kZ,gD]at h;exact h.2
theorem kZ.isSome{P:Program}{τ:Ty}{t:TypeId}(h:kZ P τ t):(P.underlying t).isSome=true:=by
 unfold kZ at h
 cases τ<;>simp only[gD]at h
 ·simp[h.2]
 ·simp[h.2]
 ·simp[h.2]
 ·obtain⟨_,e',h',_⟩:=h;simp[h']
 ·obtain⟨_,e',h',_⟩:=h;simp[h']
 ·obtain⟨_,e',f,h',_⟩:=h;simp[h']
 ·obtain⟨_,e',h',_⟩:=h;simp[h']
inductive DP:(τ:Ty)→τ.den→Nat→(υ:Ty)→υ.den→Nat→Prop where
 |here {a b:Ty} (x:(Ty.pair a b).den):DP (.pair a b) x 0 a x.1 0
 |there {a b:Ty} (x:(Ty.pair a b).den) {n:Nat} {υ:Ty} {y:υ.den} {o:Nat} (h:DP b x.2 n υ y o):DP (.pair a b) x (n+1) υ y (a.size+o)
theorem qb{α:Type}{r:α}: ∀{τ:Ty} {x:τ.den} {n:Nat} {k:(υ:Ty)→υ.den→Option α},vE τ x n k=some r→ ∃υ y o,DP τ x n υ y o∧k υ y=some r
 | .pair a b,x,0,k,h=>⟨a,x.1,0,.here x,h⟩
 | .pair a b,x,n+1,k,h=>by
  obtain⟨υ,y,o,hf,hk⟩:=qb (τ:=b) (x:=x.2) (n:=n) (k:=k) h
  exact⟨υ,y,_,.there x hf,hk⟩
 | .int _,_,_,_,h| .bool,_,_,_,h| .str,_,_,_,h| .slice _,_,_,_,h| .unit,_,_,_,h| .arr _ _,_,_,_,h=>by simp[vE]at h
theorem DP.bound{τ:Ty}{x:τ.den}{n:Nat}{υ:Ty}{y:υ.den}{o:Nat}(h:DP τ x n υ y o):o+υ.size≤τ.size:=by
 induction h with
 |here x=>simp[Ty.size]
 |there x h ih=>simp only[Ty.size];omega
theorem DP.rd{w:World}{M:Nat→Prop}{τ:Ty}{x:τ.den}{n:Nat}{υ:Ty}{y:υ.den}{o:Nat}(h:DP τ x n υ y o):
  ∀{cs:List Value},Rd w M τ cs x→Rd w M υ ((cs.drop o).take υ.size) y:=by
 induction h with
 |here x=>
  intro cs hr
  simp only[Rd]at hr
  obtain⟨c1,c2,rfl,h1,_⟩:=hr
  rw[cJ,xt h1.length];exact h1
 |there x h ih=>
  intro cs hr
  simp only[Rd]at hr
  obtain⟨c1,c2,rfl,h1,h2⟩:=hr
  rw[←iJ,mA h1.length]
  exact ih h2
theorem gD.iK{P:Program}{τ:Ty}{x:τ.den}{m:Nat}{υ:Ty}{y:υ.den}{o:Nat}(h:DP τ x m υ y o):
  ∀{fs:Array Field} {n off:Nat},gD P τ (.inr (fs,n,off))→ ∃f,fs[n+m]? =some f∧f.offset=off+o∧kZ P υ f.type:=by
 induction h with
 |here x=>
  intro fs n off hl
  simp only[gD]at hl
  obtain⟨f,hf,ho,ha,_⟩:=hl
  exact⟨f,hf,by simpa using ho,ha⟩
 |there x h ih=>
  intro fs n off hl
  simp only[gD]at hl
  obtain⟨f,hf,ho,_,hb⟩:=hl
  obtain⟨f',zW,ho',Jb⟩:=ih hb
  exact⟨f',by rw[←zW];congr 1;omega,ω,Jb⟩
theorem kZ.iK{P:Program}{τ:Ty}{t:TypeId}{x:τ.den}{m:Nat}{υ:Ty}{y:υ.den}{o:Nat}(hl:kZ P τ t)(h:DP τ x m υ y o):
  ∃fs f,P.underlying t=some (.struct fs)∧fs[m]? =some f∧f.offset=o∧kZ P υ f.type:=by
 unfold kZ at hl
 cases h with
 |here x=>
  simp only[gD]at hl
  obtain⟨_,fs,f,hu,hf,ho,ha,_⟩:=hl
  exact⟨fs,f,hu,hf,ho,ha⟩
 |there x h=>
  simp only[gD]at hl
  obtain⟨_,fs,f,hu,hf,ho,_,hb⟩:=hl
  obtain⟨f',zW,ho',Jb⟩:=gD.iK h hb
  exact⟨fs,f',hu,by rw[←zW];congr 1;omega,ω,Jb⟩
inductive LA:List Step→(τ:Ty)→τ.den→(υ:Ty)→υ.den→Nat→Prop where
 |nil {τ:Ty} (x:τ.den):LA [] τ x τ x 0
 |iK {p:List Step} {τ υ σ:Ty} {x:τ.den} {n o:Nat} {y:υ.den} {z:σ.den} {q:Nat} (h:DP τ x n υ y o) (r:LA p υ y σ z q):LA (.iK n::p) τ x σ z (o+q)
 |idx {p:List Step} {n:Nat} {e σ:Ty} {x:(Ty.arr n e).den} {i:Nat} {z:σ.den} {q:Nat} (r:LA p e (γ x i e.zero) σ z q):LA (.idx i::p) (.arr n e) x σ z (i*e.size+q)
theorem la{α:Type}{r:α}: ∀{p:List Step} {τ:Ty} {x:τ.den} {k:(υ:Ty)→υ.den→Option α},Bf p τ x k=some r→ ∃υ y o,LA p τ x υ y o∧k υ y=some r
 |[],τ,x,k,h=>⟨τ,x,0,.nil x,h⟩
 | .iK n::p,τ,x,k,h=>by
  obtain⟨υ,y,o,hf,h'⟩:=qb (h:vE τ x n _=some r)
  obtain⟨σ,z,q,hp,hk⟩:=la h'
  exact⟨σ,z,_,.iK hf hp,hk⟩
 | .idx i::p,τ,x,k,h=>by
  cases τ with
  |arr n e=>
   obtain⟨σ,z,q,hp,hk⟩:=la (p:=p) (τ:=e) (x:=γ x i e.zero) (k:=k) h
   exact⟨σ,z,_,.idx hp,hk⟩
  |_=>simp[Bf,akc]at h
def tq:Ty→Nat→Ty
 | .pair a b,n=>match n with|0=>a|n+1=>tq b n
 |τ,_=>τ
def gE:Ty→Nat→Nat
 | .pair a b,n=>match n with|0=>0|n+1=>a.size+gE b n
 |_,_=>0
def elT:Ty→Ty
 | .arr _ e=>e
 |τ=>τ
def Jr:List Step→Ty→Ty
 |[],τ=>τ
 | .iK n::p,τ=>Jr p (tq τ n)
 | .idx _::p,τ=>Jr p (elT τ)
def cM:List Step→Ty→Nat
 |[],_=>0
 | .iK n::p,τ=>gE τ n+cM p (tq τ n)
 | .idx i::p,τ=>i*(elT τ).size+cM p (elT τ)
def zx:List Step→Ty→Prop
 |[],_=>True
 | .iK n::p,τ=>zx p (tq τ n)
 | .idx i::p,τ=>(∃n e,τ= .arr n e∧i<n)∧zx p (elT τ)
theorem DP.eq{τ:Ty}{x:τ.den}{n:Nat}{υ:Ty}{y:υ.den}{o:Nat}(h:DP τ x n υ y o):υ=tq τ n∧o=gE τ n:=by
 induction h with
 |here x=>exact⟨rfl,rfl⟩
 |there x h ih=>obtain⟨rfl,rfl⟩:=ih;exact⟨rfl,rfl⟩
theorem LA.eq{p:List Step}{τ:Ty}{x:τ.den}{υ:Ty}{y:υ.den}{o:Nat}(h:LA p τ x υ y o):υ=Jr p τ∧o=cM p τ:=by
 induction h with
 |nil x=>exact⟨rfl,rfl⟩
 |iK h r ih=>
  obtain⟨h1,h2⟩:=h.eq
  obtain⟨h3,h4⟩:=ih
  subst h1 h2 h3 h4
  exact⟨rfl,rfl⟩
 |idx r ih=>
  obtain⟨h3,h4⟩:=ih
  subst h3 h4
  exact⟨rfl,rfl⟩
theorem akf(p q:List Step): ∀τ,Jr (p++q) τ=Jr q (Jr p τ):=by
 induction p with
 |nil=>intro τ;rfl
 |cons s p ih=>intro τ;cases s<;>simp[Jr,ih]
theorem tN(p q:List Step): ∀τ,cM (p++q) τ=cM p τ+cM q (Jr p τ):=by
 induction p with
 |nil=>intro τ;simp[cM,Jr]
 |cons s p ih=>intro τ;cases s<;>simp[cM,Jr,ih,p6]
theorem tO(p q:List Step): ∀τ,zx (p++q) τ↔zx p τ∧zx q (Jr p τ):=by
 induction p with
 |nil=>intro τ;simp[zx,Jr]
 |cons s p ih=>intro τ;cases s<;>simp[zx,Jr,ih,and_assoc]
theorem lN{α:Type}(l:List α)(i:Nat)(d:α)(h:i<l.length):l.getD i d=l[i]:=by simp[γ,bl h]
theorem Bi{α:Type}(n:Nat): ∀(l:List (List α)) (i:Nat) (h:i<l.length),(∀j (hj:j<l.length),l[j].length=n)→(l.flatten.drop (i*n)).take n=l[i]
 |a::l,0,_,hn=>by
  have:=hn 0 (by simp)
  simp only[Ga]at this
  simp[←this]
 |a::l,i+1,h,hn=>by
  have h0:=hn 0 (by simp)
  simp only[Ga]at h0
  rw[AX,eD,kV,Nat.add_comm (i*n) n,←iJ,mA h0]
  exact Bi n l i (by simpa using h) (λj hj=>hn (j+1) (by simp;omega))
theorem Rd.idx{w:World}{M:Nat→Prop}{n:Nat}{e:Ty}{cs:List Value}{x:(Ty.arr n e).den}(h:Rd w M (.arr n e) cs x){i:Nat}(hi:i<n):
  Rd w M e ((cs.drop (i*e.size)).take e.size) (γ x i e.zero):=by
 simp only[Rd]at h
 obtain⟨hn,Vu,hc,rfl,hr⟩:=h
 rw[Bi e.size Vu i ω (λj hj=>(hr j ω hj).length),lN x i e.zero ω]
 exact hr i ω ω
theorem LA.bound{p:List Step}{τ:Ty}{x:τ.den}{υ:Ty}{y:υ.den}{o:Nat}(h:LA p τ x υ y o):zx p τ→o+υ.size≤τ.size:=by
 induction h with
 |nil x=>intro _;simp
 |iK h r ih=>
  intro hi
  obtain⟨h1,h2⟩:=h.eq
  subst h1
  have:=ih hi
  have:=h.bound
  omega
 | @idx p n e σ x i z q r ih=>
  intro hi
  obtain⟨⟨n',e',he,kg⟩,oe⟩:=hi
  cases he
  have:=ih oe
  have h2:(i+1)*e.size≤n*e.size:=kC _ kg
  rw[eD]at h2
  simp only[Ty.size]
  omega
theorem LA.rd{w:World}{M:Nat→Prop}{p:List Step}{τ:Ty}{x:τ.den}{υ:Ty}{y:υ.den}{o:Nat}(h:LA p τ x υ y o):
  zx p τ→ ∀{cs:List Value},Rd w M τ cs x→Rd w M υ ((cs.drop o).take υ.size) y:=by
 induction h with
 |nil x=>intro _ cs hr;rw[cJ,iG (by rw[hr.length];exact aH _)];exact hr
 |iK h r ih=>
  intro hi cs hr
  obtain⟨h1,h2⟩:=h.eq
  subst h1
  have:=ih hi (h.rd hr)
  have hb:=LA.bound r hi
  rw[sf,iJ,si,iq ω]at this
  exact this
 | @idx p n e σ x i z q r ih=>
  intro hi cs hr
  obtain⟨⟨n',e',he,kg⟩,oe⟩:=hi
  cases he
  have:=ih oe (hr.idx kg)
  have hb:=LA.bound r oe
  rw[sf,iJ,si,iq ω]at this
  exact this
def eJ{α:Type}(cs:List α)(o:Nat)(new:List α):List α:=cs.take o++new++cs.drop (o+new.length)
theorem Bj{α:Type}{a b:List α}{o:Nat}{new:List α}(h:o+new.length≤a.length):eJ (a++b) o new=eJ a o new++b:=by
 unfold eJ
 rw[yS ω,xi ω]
 simp only[bD]
theorem yV{α:Type}{a b:List α}{o:Nat}{new:List α}:eJ (a++b) (a.length+o) new=a++eJ b o new:=by
 unfold eJ
 rw[List.take_append,iG ω,AP,p6,List.drop_append,jN ω,AP]
 simp
theorem eF{α:Type}{a:List α}{o:Nat}{new:List α}(h:o+new.length≤a.length):(eJ a o new).length=a.length:=by
 unfold eJ;simp;omega
theorem Fw{α:Type}{a:List α}{o i n:Nat}{new:List α}(h:i+n≤o∨o+new.length≤i)(hl:o+new.length≤a.length):((eJ a o new).drop i).take n=(a.drop i).take n:=by
 apply AY
 intro j
 simp only[mY,mZ]
 split
 ·rename_i hj
  unfold eJ
  rcases h with h|h
  ·rw[bD,tJ (by simp;omega),mY,ak ω]
  ·rw[pI (by simp;omega)]
   simp only[aS,cf,iq (show o≤a.length by omega),mZ]
   congr 1;omega
 ·rfl
theorem akg{α:Type}{a:List α}{o:Nat}{new:List α}(hl:o+new.length≤a.length):((eJ a o new).drop o).take new.length=new:=by
 unfold eJ
 rw[bD,mA (by simp;omega),xt rfl]
theorem Gx{α:Type}{l:List α}{o:Nat}{u:α}(h:l[o]? =some u):eJ l o [u]=l:=by
 obtain⟨eV,rfl⟩:=vA.1 h
 unfold eJ
 simp
theorem yW{α:Type}{l:List α}{o:Nat}{u:α}(h:o<l.length):(eJ l o [u])[o]? =some u:=by
 unfold eJ
 rw[bD,pI (by simp;omega)]
 simp[iq (Nat.le_of_lt h)]
theorem og{τ:Ty}: ∀{n:Nat} {a:Ty},Be τ n=some a→ ∀x:τ.den,∃y o,DP τ x n a y o:=by
 induction τ with
 |pair a b _ Yi=>
  intro n c h x
  cases n with
  |zero=>cases h;exact⟨_,_,.here x⟩
  |succ n=>
   obtain⟨y,o,hf⟩:=Yi (n:=n) (a:=c) h x.2
   exact⟨y,_,.there x hf⟩
 |_=>intro n c h;simp[Be]at h
theorem uY: ∀{p:List Step} {τ υ:Ty},gm p τ υ=true→ ∀x:τ.den,∃y o,LA p τ x υ y o
 |[],τ,υ,h,x=>by
  have h:=bA h
  subst h
  exact⟨x,0,.nil x⟩
 | .iK n::p,τ,υ,h,x=>by
  unfold gm at h
  split at h
  ·rename_i a ha
   obtain⟨y,o,hf⟩:=og ha x
   obtain⟨z,q,hp⟩:=uY h y
   exact⟨z,_,.iK hf hp⟩
  ·cases h
 | .idx _::_,_,_,h,_=>by simp[gm]at h
theorem lO: ∀{p:List Step} {τ υ:Ty},gm p τ υ=true→zx p τ∧Jr p τ=υ
 |[],τ,υ,h=>⟨trivial,bA h⟩
 | .iK n::p,τ,υ,h=>by
  have h0:=h
  unfold gm at h
  split at h
  ·rename_i a ha
   obtain⟨y,o,hf⟩:=og ha τ.zero
   obtain⟨h1,h2⟩:=lO h
   have:=hf.eq.1
   subst this
   exact⟨h1,h2⟩
  ·cases h
 | .idx _::_,_,_,h=>by simp[gm]at h
theorem zX: ∀{p q:List Step},Nl p q=true→p=q
 |[],[],_=>rfl
 | .iK a::p,.iK b::q,h=>by
  simp only[Nl,bP]at h
  rw[fA h.1,zX h.2]
 |[],_::_,h| .iK _::_,[],h| .idx _::_,_,h| .iK _::_,.idx _::_,h=>by simp[Nl]at h
theorem DP.apart{τ:Ty}{x:τ.den}{n:Nat}{υ:Ty}{y:υ.den}{o:Nat}(h:DP τ x n υ y o): ∀{x':τ.den} {n':Nat} {υ':Ty} {y':υ'.den} {o':Nat},DP τ x' n' υ' y' o'→n≠n'→o+υ.size≤o'∨o'+υ'.size≤o:=by
 induction h with
 |here x=>
  intro x' n' υ' y' o' h' kQ
  cases h' with
  |here=>exact absurd rfl kQ
  |there _ h'=>left;omega
 |there x h ih=>
  intro x' n' υ' y' o' h' kQ
  cases h' with
  |here=>right;omega
  |there _ h'=>rcases ih h' (λe=>kQ (by rw[e]))with h1|h1<;>omega
theorem LA.apart{p:List Step}{τ:Ty}{x:τ.den}{υ:Ty}{y:υ.den}{o:Nat}(h:LA p τ x υ y o):zx p τ→ ∀{q:List Step} {e:Ty},gm q τ (.slice e)=true→zt p q=false→cM q τ<o∨o+υ.size≤cM q τ:=by
 induction h with
 |nil x=>intro _ q e _ h;simp[zt]at h
 | @iK p τ υ σ x n o y z q hf r ih=>
  intro hi q' e hq hp
  obtain⟨h1,h2⟩:=hf.eq
  subst h1 h2
  cases q' with
  |nil=>
   have:=bA hq
   subst this
   cases hf
  |cons s q'=>
   cases s with
   |idx i=>simp[gm]at hq
   |iK m=>
    unfold gm at hq
    split at hq
    ·rename_i a ha
     obtain⟨y',o',zW⟩:=og ha x
     obtain⟨h3,h4⟩:=zW.eq
     subst h3 h4
     have hb:=r.bound hi
     obtain⟨h5,h6⟩:=lO hq
     obtain⟨z',o2,R5⟩:=uY hq y'
     have eY:=R5.bound h5
     have ho2:=R5.eq.2
     subst ho2
     simp only[cM]
     by_cases hnm:n=m
     ·subst hnm
      have Jc:zt p q'=false:=by
       simp only[zt,Bool.and_eq_false_iff]at hp
       rcases hp with hp|hp
       ·rw[p8]at hp;cases hp
       ·exact hp
      rcases ih hi hq Jc with h7|h7<;>omega
     ·rcases hf.apart zW hnm with h7|h7
      ·right;omega
      ·left
       have:1≤(Ty.slice e).size:=aH _
       omega
    ·cases hq
 | @idx p n e' σ x i z q r ih=>
  intro hi q' e hq hp
  cases q' with
  |nil=>have:=bA hq;cases this
  |cons s q'=>
   cases s with
   |idx i=>simp[gm]at hq
   |iK m=>simp[gm,Be]at hq
def fx:Value→Option Nat
 | .pointer (some a)=>some a.block
 | .slice (some a) _ cap=>if cap=0 then none else some a.block
 |_=>none
def br.mut:br→Prop
 | .obj _ _| .own _ _| .gn _ _ _ _=>True
 |_=>False
def ER(w:World)(M:Nat→Prop)(v:Value):br→Prop
 | .obj τ x=> ∃b cs t,v= .pointer (some ⟨b,0,none⟩)∧w.heap[b]? =some (.cells cs t (0,0))∧M b∧Rd w M τ cs.toList x
 | .gn τ x p _=> ∃b cs t ki u,v= .pointer (some ⟨b,0,none⟩)∧w.heap[b]? =some (.cells cs t (0,0))∧M b∧Rd w M τ ki x∧cs.toList=eJ ki (cM p τ) [u]∧u.oneCell'=true∧ ∃e,gm p τ (.slice e)=true
 | .own e l=>(l=[]∧ ∃a,v= .slice a 0 0)∨
  ∃b cs t cap,v= .slice (some ⟨b,0,none⟩) l.length cap∧w.heap[b]? =some (.cells cs t (0,0))∧M b∧0<cap∧l.length≤cap∧cap≤maxLen∧cs.size=cap*e.size∧
   ∀i (h:i<l.length),Rd w M e ((cs.toList.drop (i*e.size)).take e.size) l[i]
 | .pM e l=>Rd w M (.slice e) [v] l∧((l=[]∧ ∃a n c,v= .slice a n c)∨ ∃b n c,v= .slice (some ⟨b,0,none⟩) n c)
 | .gone=>True
def AR(v:Value)(p:List Step)(u:Value):br→Prop
 | .obj τ _| .gn τ _ _ _=>zx p τ∧ ∃b,v= .pointer (some ⟨b,0,none⟩)∧u= .pointer (some ⟨b,cM p τ,none⟩)
 | .own e l| .pM e l=> ∃i q,p= .idx i::q∧i<l.length∧zx q e∧ ∃b n c,v= .slice (some ⟨b,0,none⟩) n c∧u= .pointer (some ⟨b,i*e.size+cM q e,none⟩)
 | .gone=> ∃a,u= .pointer (some a)
def vH(τ:Ty)(n:Nat):Bool:=match Be τ n with
 |some (.slice _)=>true
 |_=>false
mutual
def VR(w:World)(M:Nat→Prop)(H:Nat→Option br)(ν:Nat→Value):bE→Value→Prop
 | .any,_=>True
 | .Yg,v=>v=undef
 | .val τ x,v=>V w M τ v x
 | .Lv τ x n,v=>V w M τ v x∧ ∃cs a,v= .agg cs∧cs.toList[gE τ n]? =some (.slice a 0 0)
 | .sub id e lo,v=>H id≠none∧ ∃a n cap,ν id= .slice a n cap∧v= .slice (if cap=lo then a else a.map (·.add (lo*e.size))) (n-lo) (cap-lo)
 | .Jo τ x n j,v=> ∃cs ki,v= .agg cs∧Rd w M τ ki x∧cs.toList=eJ ki (gE τ n) [ν j]∧H j≠none∧vH τ n=true
 | .emp,v=> ∃a,v= .slice a 0 0
 | .ref id,v=>H id≠none∧v=ν id
 | .jH id p,v=> ∃e,H id=some e∧AR (ν id) p v e
 | .su τ x,v=> ∃b off,v= .pointer (some ⟨b,off,none⟩)∧b<w.heap.size∧ ¬M b∧ ∃cs,At w b off cs∧Rd w M τ cs x
 | .tup vs,v=> ∃us:List Value,v= .tuple us.toArray∧jQ w M H ν vs us
 | .NZ f caps,v=> ∃cs:List Value,v= .func (.func f) #[] cs.toArray∧jQ w M H ν caps cs
def jQ(w:World)(M:Nat→Prop)(H:Nat→Option br)(ν:Nat→Value):List bE→List Value→Prop
 |[],[]=>True
 |a::as,v::vs=>VR w M H ν a v∧jQ w M H ν as vs
 |_,_=>False
end
def br.lP:br→br→Prop
 | .obj τ _,.obj υ _| .obj τ _,.gn υ _ _ _| .gn τ _ _ _,.obj υ _| .gn τ _ _ _,.gn υ _ _ _=>τ=υ
 | .own e l,.own f k| .own e l,.pM f k| .pM e l,.pM f k=>e=f∧l.length=k.length
 |_,.gone=>True
 |_,_=>False
structure uu(H:Nat→Option br)(ν:Nat→Value)(H':Nat→Option br)(ν':Nat→Value):Prop where
 ke: ∀i e,H i=some e→ ∃e',H' i=some e'∧e.lP e'
 head: ∀i,H i≠none→ν' i=ν i
theorem AR.ptr{v:Value}{p:List Step}{u:Value}{e:br}(h:AR v p u e): ∃a,u= .pointer (some a):=by
 cases e<;>simp only[AR]at h
 ·obtain⟨_,b,_,h⟩:=h;exact⟨_,h⟩
 ·obtain⟨_,b,_,h⟩:=h;exact⟨_,h⟩
 ·obtain⟨i,q,_,_,_,b,n,c,_,h⟩:=h;exact⟨_,h⟩
 ·obtain⟨i,q,_,_,_,b,n,c,_,h⟩:=h;exact⟨_,h⟩
 ·exact h
theorem AR.lP{v:Value}{p:List Step}{u:Value}{e e':br}(h:AR v p u e)(l:e.lP e'):AR v p u e':=by
 have hp:=h.ptr
 cases e<;>cases e'<;>simp only[br.lP]at l<;>simp only[AR]at h ⊢ <;>try exact hp
 ·subst l;exact h
 ·subst l;exact h
 ·subst l;exact h
 ·subst l;exact h
 ·obtain⟨rfl,hl⟩:=l;obtain⟨i,q,hp,hi,r⟩:=h;exact⟨i,q,hp,ω,r⟩
 ·obtain⟨rfl,hl⟩:=l;obtain⟨i,q,hp,hi,r⟩:=h;exact⟨i,q,hp,ω,r⟩
 ·obtain⟨rfl,hl⟩:=l;obtain⟨i,q,hp,hi,r⟩:=h;exact⟨i,q,hp,ω,r⟩
theorem br.lP.refl(e:br):e.lP e:=by cases e<;>simp[br.lP]
theorem uu.refl(H:Nat→Option br)(ν:Nat→Value):uu H ν H ν:=⟨λ_ e h=>⟨e,h,.refl e⟩,λ_ _=>rfl⟩
mutual
theorem VR.cg{w w':World}{M M':Nat→Prop}{H H':Nat→Option br}{ν ν':Nat→Value}(k:fK w M w' M')(g:uu H ν H' ν'):
  ∀{a:bE} {v:Value},VR w M H ν a v→VR w' M' H' ν' a v
 | .any,_,_=>by simp[VR]
 | .Yg,_,h=>by simpa [VR]using h
 | .val τ x,v,h=>by simp only[VR]at h ⊢;exact h.cg k
 | .Lv τ x n,v,h=>by simp only[VR]at h ⊢;exact⟨h.1.cg k,h.2⟩
 | .sub id e lo,v,h=>by
  simp only[VR]at h ⊢
  obtain⟨h1,h2⟩:=h
  obtain⟨e,he⟩:=xj.1 h1
  obtain⟨e',uF,_⟩:=g.ke id e he
  exact⟨by simp[uF],by rw[g.head id h1];exact h2⟩
 | .Jo τ x n j,v,h=>by
  simp only[VR]at h ⊢
  obtain⟨cs,ki,h1,h2,h3,h4,h5⟩:=h
  obtain⟨e,he⟩:=xj.1 h4
  obtain⟨e',uF,_⟩:=g.ke j e he
  exact⟨cs,ki,h1,h2.cg k,by rw[g.head j h4];exact h3,by simp[uF],h5⟩
 | .emp,_,h=>by simpa [VR]using h
 | .ref id,_,h=>by
  simp only[VR]at h ⊢
  obtain⟨h1,h2⟩:=h
  obtain⟨e,he⟩:=xj.1 h1
  obtain⟨e',uF,_⟩:=g.ke id e he
  exact⟨by simp[uF],by rw[g.head id h1];exact h2⟩
 | .jH id p,_,h=>by
  simp only[VR]at h ⊢
  obtain⟨e,he,ha⟩:=h
  obtain⟨e',uF,hl⟩:=g.ke id e he
  exact⟨e',uF,by rw[g.head id (by simp[he])];exact ha.lP hl⟩
 | .su τ x,_,h=>by
  simp only[VR]at h ⊢
  obtain⟨b,off,rfl,hb,hm,cs,ha,hr⟩:=h
  exact⟨b,off,rfl,nX hb k.size,λh'=>hm (k.less b hb h'),cs,ha.cg (k.block b hb hm),hr.cg k⟩
 | .tup vs,_,h=>by
  simp only[VR]at h ⊢
  obtain⟨us,rfl,h⟩:=h
  exact⟨us,rfl,jQ.cg k g h⟩
 | .NZ f caps,_,h=>by
  simp only[VR]at h ⊢
  obtain⟨us,rfl,h⟩:=h
  exact⟨us,rfl,jQ.cg k g h⟩
theorem jQ.cg{w w':World}{M M':Nat→Prop}{H H':Nat→Option br}{ν ν':Nat→Value}(k:fK w M w' M')(g:uu H ν H' ν'):
  ∀{as:List bE} {vs:List Value},jQ w M H ν as vs→jQ w' M' H' ν' as vs
 |[],[],_=>by simp[jQ]
 |a::as,v::vs,h=>by simp only[jQ]at h ⊢;exact⟨VR.cg k g h.1,jQ.cg k g h.2⟩
 |[],_::_,h=>by simp[jQ]at h
 |_::_,[],h=>by simp[jQ]at h
end
end VM
end
section
namespace VM
open Go
structure Ctx where
 B:Nat
 w0:World
 M0:Nat→Prop
 may:Nat→Prop
 arg:Nat→Value
structure Mem(c:Ctx)(H:Nat→Option br)(w:World)(M:Nat→Prop)(ν:Nat→Value):Prop where
 ke: ∀i e,H i=some e→ER w M (ν i) e
 Bk: ∀i j e e' b,i≠j→H i=some e→e.mut→H j=some e'→e'.mut→fx (ν i)=some b→fx (ν j)≠some b
 new: ∀i e b,H i=some e→e.mut→fx (ν i)=some b→c.B≤b∨c.may b
 oV: ∀i e l b,H i=some (.own e l)→fx (ν i)=some b→ ¬c.M0 b
 gn: ∀i τ x p j,H i=some (.gn τ x p j)→H j≠none∧ ∃b,ν i= .pointer (some ⟨b,0,none⟩)∧w.cell? ⟨b,cM p τ,none⟩=some (ν j)
 sub: ∀b,c.M0 b→M b
 Gy: ∀b,M b→b<w.heap.size
 frame: ∀b,b<c.B→ ¬c.may b→w.heap[b]? =c.w0.heap[b]?
 size:c.B≤w.heap.size
 w4:(∀b,c.M0 b→b<c.B)∧ ∀b,c.may b→ ¬c.M0 b
 os:w.os=c.w0.os
 tape:w.tape=c.w0.tape
 output:w.output=c.w0.output
structure Tr(c:Ctx)(H:Nat→Option br)(w:World)(M:Nat→Prop)(ν:Nat→Value)(H':Nat→Option br)(w':World)(M':Nat→Prop)(ν':Nat→Value):Prop where
 mem:Mem c H' w' M' ν'
 cg:fK w M w' M'
 goes:uu H ν H' ν'
theorem br.lP.trans{a b d:br}(h:a.lP b)(k:b.lP d):a.lP d:=by
 cases a<;>cases b<;>cases d<;>simp only[br.lP]at h k ⊢ <;>first
  |exact h.trans k
  |exact⟨h.1.trans k.1,h.2.trans k.2⟩
theorem uu.trans{H H' H'':Nat→Option br}{ν ν' ν'':Nat→Value}(h:uu H ν H' ν')(k:uu H' ν' H'' ν''):uu H ν H'' ν'':=by
 refine⟨λi e he=> ?_,λi hi=> ?_⟩
 ·obtain⟨e',uF,l⟩:=h.ke i e he
  obtain⟨e'',avr,l'⟩:=k.ke i e' uF
  exact⟨e'',avr,l.trans l'⟩
 ·obtain⟨e,he⟩:=xj.1 hi
  obtain⟨e',uF,_⟩:=h.ke i e he
  rw[k.head i (by simp[uF]),h.head i hi]
theorem Tr.trans{c:Ctx}{H H' H'':Nat→Option br}{w w' w'':World}{M M' Nq:Nat→Prop}{ν ν' ν'':Nat→Value}
  (h:Tr c H w M ν H' w' M' ν') (k:Tr c H' w' M' ν' H'' w'' Nq ν''):Tr c H w M ν H'' w'' Nq ν'':=
 ⟨k.mem,h.cg.trans k.cg,h.goes.trans k.goes⟩
theorem Tr.refl{c:Ctx}{H:Nat→Option br}{w:World}{M:Nat→Prop}{ν:Nat→Value}(h:Mem c H w M ν):Tr c H w M ν H w M ν:=
 ⟨h,.refl w M,.refl H ν⟩
theorem ay(H:Nat→Option br)(d:Nat)(v:Option br):cq H d v d=v:=by simp[cq]
theorem az(H:Nat→Option br){d i:Nat}(v:Option br)(h:i≠d):cq H d v i=H i:=by
 have:Nat.beq i d=false:=by rw[←lK,xx];exact h
 simp[cq,this]
def c4(H:Nat→Option br):jI→(Nat→Option br)
 |[]=>H
 |u::r=>c4 (cq H u.1 u.2) r
theorem Si(ups:jI): ∀σ:St,(σ.xy ups).H=c4 σ.H ups:=by
 induction ups with
 |nil=>intro σ;rfl
 |cons u r ih=>intro σ;exact ih _
theorem Sj(ups:jI): ∀σ:St,(σ.xy ups).T=σ.T:=by
 induction ups with
 |nil=>intro σ;rfl
 |cons u r ih=>intro σ;exact ih _
theorem fL(a b:jI): ∀H,c4 H (a++b)=c4 (c4 H a) b:=by
 induction a with
 |nil=>intro H;rfl
 |cons u r ih=>intro H;exact ih _
theorem yX{H:Nat→Option br}{id j:Nat}{v:br}(h:H j≠none):cq H id (some v) j≠none:=by
 by_cases hj:j=id
 ·subst hj;rw[ay];simp
 ·rw[az _ _ hj];exact h
theorem LB{H:Nat→Option br}{w:World}{ν:Nat→Value}(h: ∀i τ x p j,H i=some (.gn τ x p j)→H j≠none∧ ∃b,ν i= .pointer (some ⟨b,0,none⟩)∧w.cell? ⟨b,cM p τ,none⟩=some (ν j)){id:Nat}{v:br}(hv: ∀τ x p j,v≠ .gn τ x p j):
  ∀i τ x p j,cq H id (some v) i=some (.gn τ x p j)→cq H id (some v) j≠none∧ ∃b,ν i= .pointer (some ⟨b,0,none⟩)∧w.cell? ⟨b,cM p τ,none⟩=some (ν j):=by
 intro i τ x p j hi
 by_cases cm:i=id
 ·subst cm;rw[ay]at hi;cases hi;exact absurd rfl (hv _ _ _ _)
 ·rw[az _ _ cm]at hi
  obtain⟨h1,h2⟩:=h i τ x p j hi
  exact⟨yX h1,h2⟩
theorem Tr.gone{c:Ctx}{H:Nat→Option br}{w:World}{M:Nat→Prop}{ν:Nat→Value}(h:Mem c H w M ν)(id:Nat):Tr c H w M ν (cq H id (some .gone)) w M ν:=by
 refine⟨⟨λi e he=> ?_,λi j e e' b qI hi hm hj jh=> ?_,λi e b hi hm=> ?_,λi e l b hi=> ?_,LB h.gn (λ_ _ _ _=>by simp),h.sub,h.Gy,h.frame,h.size,h.w4,h.os,h.tape,h.output⟩,.refl w M,⟨λi e he=> ?_,λ_ _=>rfl⟩⟩
 ·by_cases bk:i=id
  ·subst bk;rw[ay]at he;cases he;simp[ER]
  ·rw[az _ _ bk]at he;exact h.ke i e he
 ·by_cases bk:i=id
  ·subst bk;rw[ay]at hi;cases hi;simp[br.mut]at hm
  ·by_cases hjd:j=id
   ·subst hjd;rw[ay]at hj;cases hj;simp[br.mut]at jh
   ·rw[az _ _ bk]at hi;rw[az _ _ hjd]at hj;exact h.Bk i j e e' b qI hi hm hj jh
 ·by_cases bk:i=id
  ·subst bk;rw[ay]at hi;cases hi;simp[br.mut]at hm
  ·rw[az _ _ bk]at hi;exact h.new i e b hi hm
 ·by_cases bk:i=id
  ·subst bk;rw[ay]at hi;cases hi
  ·rw[az _ _ bk]at hi;exact h.oV i e l b hi
 ·by_cases bk:i=id
  ·subst bk;exact⟨.gone,ay _ _ _,by cases e<;>simp[br.lP]⟩
  ·exact⟨e,by rw[az _ _ bk];exact he,.refl e⟩
theorem cell_of{w:World}{b:Nat}{cs:Array Value}{t:TypeId}{fz:Nat×Nat}(h:w.heap[b]? =some (.cells cs t fz))(o:Nat):w.cell? ⟨b,o,none⟩=cs[o]? :=by
 simp[World.cell?,h]
theorem At.of_block{w:World}{b:Nat}{cs:Array Value}{t:TypeId}{fz:Nat×Nat}(h:w.heap[b]? =some (.cells cs t fz))(o n:Nat):
  At w b o ((cs.toList.drop o).take n):=by
 intro j v hj
 rw[cell_of h]
 rw[mY]at hj
 split at hj
 ·rw[mZ]at hj;simpa using hj
 ·cases hj
theorem lt_of_block{w:World}{b:Nat}{o:Obj}(h:w.heap[b]? =some o):b<w.heap.size:=(lI.1 h).1
theorem ER.cg{w w':World}{M M':Nat→Prop}{v:Value}(k:fK w M w' M'): ∀{e:br},
  (e.mut→ ∀b,fx v=some b→w'.heap[b]? =w.heap[b]? ∧M' b)→ER w M v e→ER w' M' v e
 | .obj τ x,hm,h=>by
  simp only[ER]at h ⊢
  obtain⟨b,cs,t,rfl,hb,hM,hr⟩:=h
  obtain⟨h1,h2⟩:=hm trivial b rfl
  exact⟨b,cs,t,rfl,h1.trans hb,h2,hr.cg k⟩
 | .gn τ x p j,hm,h=>by
  simp only[ER]at h ⊢
  obtain⟨b,cs,t,ki,u,rfl,hb,hM,hr,h3⟩:=h
  obtain⟨h1,h2⟩:=hm trivial b rfl
  exact⟨b,cs,t,ki,u,rfl,h1.trans hb,h2,hr.cg k,h3⟩
 | .own e l,hm,h=>by
  simp only[ER]at h ⊢
  rcases h with h|⟨b,cs,t,cap,rfl,hb,hM,hc,hl,Fy,hs,hr⟩
  ·exact .inl h
  ·obtain⟨h1,h2⟩:=hm trivial b (by simp[fx];omega)
   exact .inr ⟨b,cs,t,cap,rfl,h1.trans hb,h2,hc,hl,Fy,hs,λi hi=>(hr i hi).cg k⟩
 | .pM e l,_,h=>by
  simp only[ER]at h ⊢
  exact⟨h.1.cg k,h.2⟩
 | .gone,_,_=>by simp[ER]
theorem ER.xJ{w:World}{M:Nat→Prop}{v:Value}{e:br}(h:ER w M v e)(hm:e.mut){b:Nat}(hb:fx v=some b):M b:=by
 cases e with
 |obj τ x=>simp only[ER]at h;obtain⟨b',cs,t,hv,eY,hM,_⟩:=h;rw[hv]at hb;simp only[fx,iI]at hb;subst hb;exact hM
 |gn τ x p j=>simp only[ER]at h;obtain⟨b',cs,t,_,_,hv,eY,hM,_⟩:=h;rw[hv]at hb;simp only[fx,iI]at hb;subst hb;exact hM
 |own e1 l1=>
  simp only[ER]at h
  rcases h with⟨_,a,hv⟩|⟨b',cs,t,cap,hv,eY,hM,hc,_⟩
  ·rw[hv]at hb;cases a<;>simp[fx]at hb
  ·rw[hv]at hb;simp only[fx]at hb;split at hb
   ·cases hb
   ·simp only[iI]at hb;subst hb;exact hM
 |pM _ _=>simp[br.mut]at hm
 |gone=>simp[br.mut]at hm
theorem Tr.freeze{c:Ctx}{H:Nat→Option br}{w:World}{M:Nat→Prop}{ν:Nat→Value}(h:Mem c H w M ν){id:Nat}{e:Ty}{l:List e.den}(bk:H id=some (.own e l)):
  ∃M',Tr c H w M ν (cq H id (some (.pM e l))) w M' ν∧V w M' (.slice e) (ν id) l∧ ∀b,M' b↔(M b∧fx (ν id)≠some b):=by
 have hk:fK w M w (λb=>M b∧fx (ν id)≠some b):=⟨aH _,λ_ _ _=>rfl,λ_ _ h=>h.1⟩
 have he:=h.ke id _ bk
 have kE:Rd w (λb=>M b∧fx (ν id)≠some b) (.slice e) [ν id] l:=by
  simp only[ER]at he
  simp only[Rd]
  rcases he with⟨rfl,a,hv⟩|⟨b,cs,t,cap,hv,hb,hM,hc,hl,Fy,hs,hr⟩
  ·exact⟨a,0,by rw[hv];rfl,aH _,λi hi=>absurd hi (by simp)⟩
  ·refine⟨_,cap,by rw[hv],hl,λi hi=>⟨b,0,rfl,lt_of_block hb,λhm=>hm.2 (by rw[hv];simp[fx];omega),_,?_,(hr i hi).cg hk⟩⟩
   rw[gr]
   exact At.of_block hb _ _
 refine⟨λb=>M b∧fx (ν id)≠some b,⟨⟨λi e' hi=> ?_,λi j e1 e2 b qI hi hm hj jh=> ?_,λi e1 b hi hm=> ?_,λi e1 l1 b hi=> ?_,LB h.gn (λ_ _ _ _=>by simp),λb hb=>⟨h.sub b hb,λhm=>h.oV id e l b bk hm hb⟩,λb hb=>h.Gy b hb.1,h.frame,h.size,h.w4,h.os,h.tape,h.output⟩,hk,⟨λi e' hi=> ?_,λ_ _=>rfl⟩⟩,?_,λ_=>Iff.rfl⟩
 ·by_cases cm:i=id
  ·subst cm;rw[ay]at hi;cases hi
   simp only[ER]
   refine⟨kE,?_⟩
   simp only[ER]at he
   rcases he with⟨rfl,a,hv⟩|⟨b,cs,t,cap,hv,_⟩
   ·exact .inl ⟨rfl,a,0,0,hv⟩
   ·exact .inr ⟨b,_,cap,hv⟩
  ·rw[az _ _ cm]at hi
   refine(h.ke i e' hi).cg hk (λhm b hb=>⟨rfl,?_,?_⟩)
   ·exact(h.ke i e' hi).xJ hm hb
   ·exact h.Bk i id e' (.own e l) b cm hi hm bk trivial hb
 ·by_cases cm:i=id
  ·subst cm;rw[ay]at hi;cases hi;simp[br.mut]at hm
  ·by_cases Jd:j=id
   ·subst Jd;rw[ay]at hj;cases hj;simp[br.mut]at jh
   ·rw[az _ _ cm]at hi;rw[az _ _ Jd]at hj;exact h.Bk i j e1 e2 b qI hi hm hj jh
 ·by_cases cm:i=id
  ·subst cm;rw[ay]at hi;cases hi;simp[br.mut]at hm
  ·rw[az _ _ cm]at hi;exact h.new i e1 b hi hm
 ·by_cases cm:i=id
  ·subst cm;rw[ay]at hi;cases hi
  ·rw[az _ _ cm]at hi;exact h.oV i e1 l1 b hi
 ·by_cases cm:i=id
  ·subst cm;rw[bk]at hi;cases hi;exact⟨_,ay _ _ _,rfl,rfl⟩
  ·exact⟨e',by rw[az _ _ cm];exact hi,.refl e'⟩
 ·unfold V;rw[ah (by simp[Ty.isAgg])];exact kE
theorem Tr.fix{c:Ctx}{H:Nat→Option br}{w:World}{M:Nat→Prop}{ν:Nat→Value}(h:Mem c H w M ν){id:Nat}{τ:Ty}{x:τ.den}(bk:H id=some (.obj τ x)):
  ∃M' b,Tr c H w M ν (cq H id (some .gone)) w M' ν∧ν id= .pointer (some ⟨b,0,none⟩)∧b<w.heap.size∧ ¬M' b∧ ∃cs,At w b 0 cs∧Rd w M' τ cs x:=by
 have he:=h.ke id _ bk
 simp only[ER]at he
 obtain⟨b0,cs,t,hv,hb,hM,hr⟩:=he
 have xK:fx (ν id)=some b0:=by rw[hv];rfl
 have hk:fK w M w (λb=>M b∧b≠b0):=⟨aH _,λ_ _ _=>rfl,λ_ _ h=>h.1⟩
 have Gz: ¬c.M0 b0:=λhm=>(h.new id _ b0 bk trivial xK).elim (λhB=>by have:=h.w4.1 b0 hm;omega) (λhB=>h.w4.2 b0 hB hm)
 refine⟨λb=>M b∧b≠b0,b0,⟨⟨λi e' hi=> ?_,λi j e1 e2 b qI hi hm hj jh=> ?_,λi e1 b hi hm=> ?_,λi e1 l1 b hi=> ?_,LB h.gn (λ_ _ _ _=>by simp),λb eY=>⟨h.sub b eY,λe=>Gz (e▸eY)⟩,λb eY=>h.Gy b eY.1,h.frame,h.size,h.w4,h.os,h.tape,h.output⟩,hk,⟨λi e' hi=> ?_,λ_ _=>rfl⟩⟩,hv,lt_of_block hb,λhm=>hm.2 rfl,cs.toList,?_,hr.cg hk⟩
 ·by_cases cm:i=id
  ·subst cm;rw[ay]at hi;cases hi;simp[ER]
  ·rw[az _ _ cm]at hi
   refine(h.ke i e' hi).cg hk (λhm b eY=>⟨rfl,?_,?_⟩)
   ·exact(h.ke i e' hi).xJ hm eY
   ·intro e
    exact h.Bk i id e' (.obj τ x) b cm hi hm bk trivial eY (by rw[xK,e])
 ·by_cases cm:i=id
  ·subst cm;rw[ay]at hi;cases hi;simp[br.mut]at hm
  ·by_cases Jd:j=id
   ·subst Jd;rw[ay]at hj;cases hj;simp[br.mut]at jh
   ·rw[az _ _ cm]at hi;rw[az _ _ Jd]at hj;exact h.Bk i j e1 e2 b qI hi hm hj jh
 ·by_cases cm:i=id
  ·subst cm;rw[ay]at hi;cases hi;simp[br.mut]at hm
  ·rw[az _ _ cm]at hi;exact h.new i e1 b hi hm
 ·by_cases cm:i=id
  ·subst cm;rw[ay]at hi;cases hi
  ·rw[az _ _ cm]at hi;exact h.oV i e1 l1 b hi
 ·by_cases cm:i=id
  ·subst cm;rw[bk]at hi;cases hi;exact⟨_,ay _ _ _,trivial⟩
  ·exact⟨e',by rw[az _ _ cm];exact hi,.refl e'⟩
 ·have:=At.of_block hb 0 cs.toList.length
  rwa [cJ,im]at this
end VM
end
section
namespace VM
open Go
theorem GA(w:World)(o:Obj):(w.alloc o).heap[w.heap.size]? =some o:=by
 show(w.heap.push o)[w.heap.size]? =some o
 simp
theorem rO(w:World)(o:Obj){i:Nat}(h:i<w.heap.size):(w.alloc o).heap[i]? =w.heap[i]? :=by
 show(w.heap.push o)[i]? =w.heap[i]?
 rw[Array.getElem?_push,ah (Nat.ne_of_lt h)]
theorem size_alloc(w:World)(o:Obj):(w.alloc o).heap.size=w.heap.size+1:=by
 show(w.heap.push o).size=_
 simp
def updν(ν:Nat→Value)(d:Nat)(v:Value):Nat→Value:=λi=>if i=d then v else ν i
theorem sA{c:Ctx}{H:Nat→Option br}{w w':World}{M:Nat→Prop}{ν ν':Nat→Value}(h:Mem c H w M ν){H':Nat→Option br}
  (hν: ∀i,H i≠none→ν' i=ν i) (hn: ∀i,H i≠none→H' i≠none)
  (hi: ∀i τ x p j,H' i=some (.gn τ x p j)→(H i=some (.gn τ x p j)∧ ∀b,ν i= .pointer (some ⟨b,0,none⟩)→w'.heap[b]? =w.heap[b]?)∨(H' j≠none∧ ∃b,ν' i= .pointer (some ⟨b,0,none⟩)∧w'.cell? ⟨b,cM p τ,none⟩=some (ν' j))):
  ∀i τ x p j,H' i=some (.gn τ x p j)→H' j≠none∧ ∃b,ν' i= .pointer (some ⟨b,0,none⟩)∧w'.cell? ⟨b,cM p τ,none⟩=some (ν' j):=by
 intro i τ x p j he
 rcases hi i τ x p j he with⟨h1,hb⟩|h1
 ·obtain⟨h2,b,h3,h4⟩:=h.gn i τ x p j h1
  refine⟨hn j h2,b,by rw[hν i (by rw[h1];simp)];exact h3,?_⟩
  rw[hν j h2,World.cell?_of_block (w:=w) (hb b h3)]
  exact h4
 ·exact h1
theorem yY{H:Nat→Option br}{id:Nat}{v:br}: ∀i,H i≠none→cq H id (some v) i≠none:=λ_ h=>yX h
theorem Bl{H:Nat→Option br}{id:Nat}{v:br}(hv: ∀τ x p j,v≠ .gn τ x p j){i:Nat}{τ:Ty}{x:τ.den}{p:List Step}{j:Nat}(h:cq H id (some v) i=some (.gn τ x p j)):H i=some (.gn τ x p j):=by
 by_cases cm:i=id
 ·subst cm;rw[ay]at h;cases h;exact absurd rfl (hv _ _ _ _)
 ·rw[az _ _ cm]at h;exact h
theorem Tr.alloc{c:Ctx}{H:Nat→Option br}{w:World}{M:Nat→Prop}{ν:Nat→Value}(h:Mem c H w M ν){id:Nat}(bk:H id=none)(o:Obj)(v:Value)(e:br)(hm:e.mut)(J8: ∀τ x p j,e≠ .gn τ x p j)
  (hb:fx v=none∨fx v=some w.heap.size) (Vv:ER (w.alloc o) (λb=>M b∨b=w.heap.size) v e):
  Tr c H w M ν (cq H id (some e)) (w.alloc o) (λb=>M b∨b=w.heap.size) (updν ν id v):=by
 have hk:fK w M (w.alloc o) (λb=>M b∨b=w.heap.size):=
  ⟨by rw[size_alloc];omega,λb hb _=>rO w o hb,λb hb h'=>h'.resolve_right ω⟩
 have hν: ∀i,i≠id→updν ν id v i=ν i:=λi hi=>by simp[updν,hi]
 have hνs:updν ν id v id=v:=by simp[updν]
 have eV: ∀i e' b,H i=some e'→e'.mut→fx (ν i)=some b→b<w.heap.size:=λi e' b hi jh eY=>h.Gy b ((h.ke i e' hi).xJ jh eY)
 refine⟨⟨λi e' hi=> ?_,λi j e1 e2 b qI hi uv hj yZ=> ?_,λi e1 b hi uv=> ?_,λi e1 l1 b hi=> ?_,sA h (λi hi=>hν i (λe=>hi (e▸bk))) yY (λi τ x p j hi=> .inl ⟨Bl J8 hi,λb hb=>rO w o (eV i _ b (Bl J8 hi) trivial (by rw[hb];rfl))⟩),λb hb=> .inl (h.sub b hb),λb eY=> ?_,λb nC vx=> ?_,?_,h.w4,h.os,h.tape,h.output⟩,hk,⟨λi e' hi=> ?_,λi hi=> ?_⟩⟩
 ·by_cases cm:i=id
  ·subst cm;rw[ay]at hi;cases hi;rw[hνs];exact Vv
  ·rw[az _ _ cm]at hi;rw[hν i cm]
   exact(h.ke i e' hi).cg hk λjh b eY=>⟨rO w o (eV i e' b hi jh eY),.inl ((h.ke i e' hi).xJ jh eY)⟩
 ·by_cases cm:i=id
  ·subst cm;rw[ay]at hi;cases hi;rw[hνs]
   intro nC
   have Jd:j≠i:=ff qI
   rw[az _ _ Jd]at hj;rw[hν j Jd]
   intro vx
   have:=eV j e2 b hj yZ vx
   rcases hb with hb|hb<;>rw[hb]at nC<;>simp at nC
   omega
  ·rw[az _ _ cm]at hi;rw[hν i cm]
   by_cases Jd:j=id
   ·subst Jd;rw[hνs]
    intro nC vx
    have:=eV i e1 b hi uv nC
    rcases hb with hb|hb<;>rw[hb]at vx<;>simp at vx
    omega
   ·rw[az _ _ Jd]at hj;rw[hν j Jd];exact h.Bk i j e1 e2 b qI hi uv hj yZ
 ·by_cases cm:i=id
  ·subst cm;rw[hνs]
   intro nC
   rcases hb with hb|hb<;>rw[hb]at nC<;>simp at nC
   subst nC;exact .inl h.size
  ·rw[az _ _ cm]at hi;rw[hν i cm];exact h.new i e1 b hi uv
 ·by_cases cm:i=id
  ·subst cm;rw[hνs]
   intro nC h0
   rcases hb with hb|hb<;>rw[hb]at nC<;>simp at nC
   have:=h.w4.1 b h0
   have:=h.size
   omega
  ·rw[az _ _ cm]at hi;rw[hν i cm];exact h.oV i e1 l1 b hi
 ·rw[size_alloc]
  rcases eY with eY|eY
  ·have:=h.Gy b eY;omega
  ·omega
 ·rw[rO w o (nX nC h.size)];exact h.frame b nC vx
 ·rw[size_alloc];have:=h.size;omega
 ·by_cases cm:i=id
  ·subst cm;rw[bk]at hi;cases hi
  ·exact⟨e',by rw[az _ _ cm];exact hi,.refl e'⟩
 ·have cm:i≠id:=λe=>hi (e▸bk)
  exact hν i cm
theorem Tr.var{c:Ctx}{H:Nat→Option br}{w:World}{M:Nat→Prop}{ν:Nat→Value}(h:Mem c H w M ν){id:Nat}(bk:H id=none)(t:TypeId){τ:Ty}{cs:Array Value}{x:τ.den}(hr:Rd w M τ cs.toList x):
  Tr c H w M ν (cq H id (some (.obj τ x))) (w.alloc (.cells cs t)) (λb=>M b∨b=w.heap.size) (updν ν id (.pointer (some ⟨w.heap.size,0,none⟩))):=by
 refine Tr.alloc h bk _ _ _ trivial (λ_ _ _ _=>by simp) (.inr rfl) ?_
 simp only[ER]
 have hk:fK w M (w.alloc (.cells cs t)) (λb=>M b∨b=w.heap.size):=
  ⟨by rw[size_alloc];omega,λb hb _=>rO w _ hb,λb hb h'=>h'.resolve_right ω⟩
 exact⟨w.heap.size,cs,t,rfl,GA w _,.inr rfl,hr.cg hk⟩
theorem Tr.row{c:Ctx}{H:Nat→Option br}{w:World}{M:Nat→Prop}{ν:Nat→Value}(h:Mem c H w M ν){id:Nat}(bk:H id=none)(t:TypeId){e:Ty}{cs:Array Value}{l:List e.den}{cap:Nat}
  (hl:l.length≤cap) (hm:cap≤maxLen) (hs:cs.size=cap*e.size) (hr: ∀i (hi:i<l.length),Rd w M e ((cs.toList.drop (i*e.size)).take e.size) l[i]):
  Tr c H w M ν (cq H id (some (.own e l))) (w.alloc (.cells cs t)) (λb=>M b∨b=w.heap.size) (updν ν id (.slice (some ⟨w.heap.size,0,none⟩) l.length cap)):=by
 have hk:fK w M (w.alloc (.cells cs t)) (λb=>M b∨b=w.heap.size):=
  ⟨by rw[size_alloc];omega,λb hb _=>rO w _ hb,λb hb h'=>h'.resolve_right ω⟩
 refine Tr.alloc h bk _ _ _ trivial (λ_ _ _ _=>by simp) ?_ ?_
 ·simp only[fx];split
  ·exact .inl rfl
  ·exact .inr rfl
 ·simp only[ER]
  by_cases hc:cap=0
  ·subst hc
   have hl0:l=[]:=vz ω
   subst hl0
   exact .inl ⟨rfl,_,rfl⟩
  ·exact .inr ⟨w.heap.size,cs,t,cap,rfl,GA w _,.inr rfl,ω,hl,hm,hs,λi hi=>(hr i hi).cg hk⟩
theorem Tr.drew{c:Ctx}{H:Nat→Option br}{w:World}{M:Nat→Prop}{ν:Nat→Value}(h:Mem c H w M ν):Tr c H w M ν H w.drew M ν:=by
 have hk:fK w M w.drew M:=⟨aH _,λ_ _ _=>rfl,λ_ _ h=>h⟩
 exact⟨⟨λi e he=>(h.ke i e he).cg hk λhm b hb=>⟨rfl,(h.ke i e he).xJ hm hb⟩,h.Bk,h.new,h.oV,h.gn,h.sub,h.Gy,h.frame,h.size,h.w4,h.os,h.tape,h.output⟩,hk,.refl H ν⟩
theorem size_setRow(w:World)(g:Nat)(cs:Array Value):(w.setRow g cs).heap.size=w.heap.size:=by simp[World.setRow]
theorem Tr.write{c:Ctx}{H:Nat→Option br}{w:World}{M:Nat→Prop}{ν:Nat→Value}(h:Mem c H w M ν){id:Nat}{e e':br}(bk:H id=some e)(hm:e.mut)(jh:e'.mut)(hl:e.lP e')
  {b:Nat} (hb:fx (ν id)=some b) {cs new:Array Value} {t:TypeId} (hg:w.heap[b]? =some (.cells cs t (0,0)))
  (Vv: ∀M',fK w M (w.setRow b new) M'→M' b→ER (w.setRow b new) M' (ν id) e')
  (q5: ∀τ x p j,e'= .gn τ x p j→H j≠none∧ ∃b',ν id= .pointer (some ⟨b',0,none⟩)∧(w.setRow b new).cell? ⟨b',cM p τ,none⟩=some (ν j):=by intro _ _ _ _ h;cases h):
  Tr c H w M ν (cq H id (some e')) (w.setRow b new) M ν:=by
 have hMb:M b:=(h.ke id e bk).xJ hm hb
 have hk:fK w M (w.setRow b new) M:=
  ⟨by rw[size_setRow];exact aH _,λb' _ hm=>setRow_other w b b' new (λe=>hm (e▸hMb)),λ_ _ h=>h⟩
 refine⟨⟨λi e1 hi=> ?_,λi j e1 e2 b1 qI hi uv hj yZ=> ?_,λi e1 b1 hi uv=> ?_,λi e1 l1 b1 hi=> ?_,sA h (λ_ _=>rfl) yY (λi τ x p j hi=> ?_),h.sub,λb1 nC=>by rw[size_setRow];exact h.Gy b1 nC,λb1 nC vx=> ?_,by rw[size_setRow];exact h.size,h.w4,h.os,h.tape,h.output⟩,hk,⟨λi e1 hi=> ?_,λi hi=>rfl⟩⟩
 ·by_cases cm:i=id
  ·subst cm;rw[ay]at hi;cases hi;exact Vv M hk hMb
  ·rw[az _ _ cm]at hi
   exact(h.ke i e1 hi).cg hk λuv b1 nC=>⟨setRow_other w b b1 new (λe'=>h.Bk i id e1 e b1 cm hi uv bk hm nC (e'▸hb)),(h.ke i e1 hi).xJ uv nC⟩
 ·by_cases cm:i=id
  ·subst cm;rw[ay]at hi;cases hi
   have Jd:j≠i:=ff qI
   rw[az _ _ Jd]at hj
   exact h.Bk i j e e2 b1 qI bk hm hj yZ
  ·rw[az _ _ cm]at hi
   by_cases Jd:j=id
   ·subst Jd;exact h.Bk i j e1 e b1 qI hi uv bk hm
   ·rw[az _ _ Jd]at hj;exact h.Bk i j e1 e2 b1 qI hi uv hj yZ
 ·by_cases cm:i=id
  ·subst cm;exact h.new i e b1 bk hm
  ·rw[az _ _ cm]at hi;exact h.new i e1 b1 hi uv
 ·by_cases cm:i=id
  ·subst cm;rw[ay]at hi;cases hi
   cases e with
   |own e0 l0=>exact h.oV i e0 l0 b1 bk
   |obj _ _=>simp[br.lP]at hl
   |gn _ _ _ _=>simp[br.lP]at hl
   |pM _ _=>simp[br.mut]at hm
   |gone=>simp[br.mut]at hm
  ·rw[az _ _ cm]at hi;exact h.oV i e1 l1 b1 hi
 ·by_cases cm:i=id
  ·subst cm;rw[ay]at hi;cases hi
   obtain⟨h1,h2⟩:=q5 _ _ _ _ rfl
   exact .inr ⟨yX h1,h2⟩
  ·rw[az _ _ cm]at hi
   exact .inl ⟨hi,λb1 nC=>setRow_other w b b1 new (λe1=>h.Bk i id _ e b1 cm hi trivial bk hm (by rw[nC];rfl) (e1▸hb))⟩
 ·rw[setRow_other w b b1 new]
  ·exact h.frame b1 nC vx
  ·intro hbb;subst hbb
   rcases h.new id e b1 bk hm hb with h'|h'
   ·omega
   ·exact vx h'
 ·by_cases cm:i=id
  ·subst cm;rw[bk]at hi;cases hi;exact⟨e',ay _ _ _,hl⟩
  ·exact⟨e1,by rw[az _ _ cm];exact hi,.refl e1⟩
theorem Tr.rename{c:Ctx}{H:Nat→Option br}{w:World}{M:Nat→Prop}{ν:Nat→Value}(h:Mem c H w M ν){j id:Nat}{e e':Ty}{l:List e.den}{l':List e'.den}(hj:H j=some (.own e l))(bk:H id=none)
  {v:Value} (hb:fx v=none∨fx v=fx (ν j)) (Vv:ER w M v (.own e' l')):
  Tr c H w M ν (cq (cq H j (some .gone)) id (some (.own e' l'))) w M (updν ν id v):=by
 have kQ:j≠id:=λe=>by rw[e,bk]at hj;cases hj
 have h1:=(Tr.gone h j).mem
 have qJ:cq H j (some .gone) id=none:=by rw[az _ _ (ff kQ)];exact bk
 have hν: ∀i,i≠id→updν ν id v i=ν i:=λi hi=>by simp[updν,hi]
 have hνs:updν ν id v id=v:=by simp[updν]
 refine⟨⟨λi e1 hi=> ?_,λi k e1 e2 b1 qI hi uv hk yZ=> ?_,λi e1 b1 hi uv=> ?_,λi e1 l1 b1 hi=> ?_,sA h1 (λi hi=>hν i (λe=>hi (e▸qJ))) yY (λi τ x p j hi=> .inl ⟨Bl (λ_ _ _ _=>by simp) hi,λ_ _=>rfl⟩),h.sub,h.Gy,h.frame,h.size,h.w4,h.os,h.tape,h.output⟩,.refl w M,⟨λi e1 hi=> ?_,λi hi=> ?_⟩⟩
 ·by_cases cm:i=id
  ·subst cm;rw[ay]at hi;cases hi;rw[hνs];exact Vv
  ·rw[az _ _ cm]at hi;rw[hν i cm];exact h1.ke i e1 hi
 ·by_cases cm:i=id
  ·subst cm;rw[ay]at hi;cases hi;rw[hνs]
   have N7:k≠i:=ff qI
   rw[az _ _ N7]at hk;rw[hν k N7]
   intro nC
   rcases hb with hb|hb
   ·rw[hb]at nC;cases nC
   ·rw[hb]at nC
    by_cases hkj:k=j
    ·subst hkj;rw[ay]at hk;cases hk;simp[br.mut]at yZ
    ·rw[az _ _ hkj]at hk;exact h.Bk j k _ e2 b1 (ff hkj) hj trivial hk yZ nC
  ·rw[az _ _ cm]at hi;rw[hν i cm]
   by_cases N7:k=id
   ·subst N7;rw[hνs]
    intro nC vx
    rcases hb with hb|hb
    ·rw[hb]at vx;cases vx
    ·rw[hb]at vx
     by_cases Js:i=j
     ·subst Js;rw[ay]at hi;cases hi;simp[br.mut]at uv
     ·rw[az _ _ Js]at hi;exact h.Bk j i _ e1 b1 (ff Js) hj trivial hi uv vx nC
   ·rw[az _ _ N7]at hk;rw[hν k N7];exact h1.Bk i k e1 e2 b1 qI hi uv hk yZ
 ·by_cases cm:i=id
  ·subst cm;rw[hνs];intro nC
   rcases hb with hb|hb
   ·rw[hb]at nC;cases nC
   ·rw[hb]at nC;exact h.new j _ b1 hj trivial nC
  ·rw[az _ _ cm]at hi;rw[hν i cm];exact h1.new i e1 b1 hi uv
 ·by_cases cm:i=id
  ·subst cm;rw[hνs];intro nC
   rcases hb with hb|hb
   ·rw[hb]at nC;cases nC
   ·rw[hb]at nC;exact h.oV j e l b1 hj nC
  ·rw[az _ _ cm]at hi;rw[hν i cm];exact h1.oV i e1 l1 b1 hi
 ·by_cases Js:i=j
  ·subst Js;exact⟨.gone,by rw[az _ _ kQ,ay],by cases e1<;>simp[br.lP]⟩
  ·have cm:i≠id:=λe=>by rw[e,bk]at hi;cases hi
   exact⟨e1,by rw[az _ _ cm,az _ _ Js];exact hi,.refl e1⟩
 ·exact hν i (λe=>hi (e▸bk))
theorem Tr.Jt{c:Ctx}{H:Nat→Option br}{w:World}{M:Nat→Prop}{ν:Nat→Value}(h:Mem c H w M ν){id:Nat}{e e':br}(bk:H id=some e)(hm:e.mut)(jh:e'.mut)(hl:e.lP e')(rm: ∀e0 l0,e'≠ .own e0 l0)
  (Vv:ER w M (ν id) e') (q5: ∀τ x p j,e'= .gn τ x p j→H j≠none∧ ∃b',ν id= .pointer (some ⟨b',0,none⟩)∧w.cell? ⟨b',cM p τ,none⟩=some (ν j)):
  Tr c H w M ν (cq H id (some e')) w M ν:=by
 refine⟨⟨λi e1 hi=> ?_,λi j e1 e2 b1 qI hi uv hj yZ=> ?_,λi e1 b1 hi uv=> ?_,λi e1 l1 b1 hi=> ?_,sA h (λ_ _=>rfl) yY (λi τ x p j hi=> ?_),h.sub,h.Gy,h.frame,h.size,h.w4,h.os,h.tape,h.output⟩,.refl w M,⟨λi e1 hi=> ?_,λi hi=>rfl⟩⟩
 ·by_cases cm:i=id
  ·subst cm;rw[ay]at hi;cases hi;exact Vv
  ·rw[az _ _ cm]at hi;exact h.ke i e1 hi
 ·by_cases cm:i=id
  ·subst cm;rw[ay]at hi;cases hi
   have Jd:j≠i:=ff qI
   rw[az _ _ Jd]at hj
   exact h.Bk i j e e2 b1 qI bk hm hj yZ
  ·rw[az _ _ cm]at hi
   by_cases Jd:j=id
   ·subst Jd;exact h.Bk i j e1 e b1 qI hi uv bk hm
   ·rw[az _ _ Jd]at hj;exact h.Bk i j e1 e2 b1 qI hi uv hj yZ
 ·by_cases cm:i=id
  ·subst cm;exact h.new i e b1 bk hm
  ·rw[az _ _ cm]at hi;exact h.new i e1 b1 hi uv
 ·by_cases cm:i=id
  ·subst cm;rw[ay]at hi;cases hi;exact absurd rfl (rm _ _)
  ·rw[az _ _ cm]at hi;exact h.oV i e1 l1 b1 hi
 ·by_cases cm:i=id
  ·subst cm;rw[ay]at hi;cases hi
   obtain⟨h1,h2⟩:=q5 _ _ _ _ rfl
   exact .inr ⟨yX h1,h2⟩
  ·rw[az _ _ cm]at hi;exact .inl ⟨hi,λ_ _=>rfl⟩
 ·by_cases cm:i=id
  ·subst cm;rw[bk]at hi;cases hi;exact⟨e',ay _ _ _,hl⟩
  ·exact⟨e1,by rw[az _ _ cm];exact hi,.refl e1⟩
theorem Tr.nothing{c:Ctx}{w:World}{M:Nat→Prop}{ν:Nat→Value}{H:Nat→Option br}(h:Mem c H w M ν){id:Nat}(bk:H id=none)(e:Ty)(ad:Option Addr):
  Tr c H w M ν (cq H id (some (.own e []))) w M (updν ν id (.slice ad 0 0)):=by
 have hν: ∀i,i≠id→updν ν id (.slice ad 0 0) i=ν i:=λi hi=>by simp[updν,hi]
 have hνs:updν ν id (.slice ad 0 0) id= .slice ad 0 0:=by simp[updν]
 have hb:fx (.slice ad 0 0)=none:=by cases ad<;>simp[fx]
 refine⟨⟨λi e1 hi=> ?_,λi k e1 e2 b1 qI hi uv hk yZ=> ?_,λi e1 b1 hi uv=> ?_,λi e1 l1 b1 hi=> ?_,sA h (λi hi=>hν i (λe=>hi (e▸bk))) yY (λi τ x p j hi=> .inl ⟨Bl (λ_ _ _ _=>by simp) hi,λ_ _=>rfl⟩),h.sub,h.Gy,h.frame,h.size,h.w4,h.os,h.tape,h.output⟩,.refl w M,⟨λi e1 hi=> ?_,λi hi=>hν i (λe=>hi (e▸bk))⟩⟩
 ·by_cases cm:i=id
  ·subst cm;rw[ay]at hi;cases hi;rw[hνs];simp only[ER];exact .inl ⟨trivial,ad,rfl⟩
  ·rw[az _ _ cm]at hi;rw[hν i cm];exact h.ke i e1 hi
 ·by_cases cm:i=id
  ·subst cm;rw[hνs,hb];intro h';cases h'
  ·rw[az _ _ cm]at hi;rw[hν i cm]
   by_cases N7:k=id
   ·subst N7;rw[hνs,hb];intro _ h';cases h'
   ·rw[az _ _ N7]at hk;rw[hν k N7];exact h.Bk i k e1 e2 b1 qI hi uv hk yZ
 ·by_cases cm:i=id
  ·subst cm;rw[hνs,hb];intro h';cases h'
  ·rw[az _ _ cm]at hi;rw[hν i cm];exact h.new i e1 b1 hi uv
 ·by_cases cm:i=id
  ·subst cm;rw[hνs,hb];intro h';cases h'
  ·rw[az _ _ cm]at hi;rw[hν i cm];exact h.oV i e1 l1 b1 hi
 ·have cm:i≠id:=λe=>by rw[e,bk]at hi;cases hi
  exact⟨e1,by rw[az _ _ cm];exact hi,.refl e1⟩
end VM
end
section
namespace VM
open Go
theorem bz{α:Type}{υ τ:Ty}{y:υ.den}{k:τ.den→Option α}{r:α}(h:cP υ τ y k=some r): ∃e:υ=τ,k (e▸y)=some r:=by
 unfold cP at h
 split at h
 ·rename_i e;exact⟨e,h⟩
 ·cases h
theorem dW{α:Type}{υ τ:Ty}{k:Option α}{r:α}(h:ju υ τ k=some r):υ=τ∧k=some r:=by
 unfold ju at h
 split at h
 ·rename_i e;exact⟨e,h⟩
 ·cases h
theorem V.slice{w:World}{M:Nat→Prop}{e:Ty}{v:Value}{l:List e.den}:V w M (.slice e) v l↔Rd w M (.slice e) [v] l:=by
 unfold V;rw[ah (by simp[Ty.isAgg])]
def Fz(H H1:Nat→Option br):Prop:= ∀i,H1 i=H i∨ ∃e l,H i=some (.own e l)∧H1 i=some (.pM e l)
theorem Fz.refl(H:Nat→Option br):Fz H H:=λ_=> .inl rfl
theorem Fz.none{H H1:Nat→Option br}(h:Fz H H1){i:Nat}(hi:H i=none):H1 i=none:=by
 rcases h i with h'|⟨e,l,h',_⟩
 ·rw[h',hi]
 ·rw[hi]at h';cases h'
theorem Fz.obj{H H1:Nat→Option br}(h:Fz H H1){i:Nat}{τ:Ty}{x:τ.den}(hi:H i=some (.obj τ x)):H1 i=some (.obj τ x):=by
 rcases h i with h'|⟨e,l,h',_⟩
 ·rw[h',hi]
 ·rw[hi]at h';cases h'
theorem CF{H:Nat→Option br}{id:Nat}{e:Option br}(h:H id=e):cq H id e=H:=by
 funext i
 by_cases hi:i=id
 ·subst hi;rw[ay,h]
 ·rw[az _ _ hi]
theorem ld{α:Type}{c:Ctx}{H H1:Nat→Option br}{w:World}{M:Nat→Prop}{ν:Nat→Value}(hz:Fz H H1)(hm:Mem c H1 w M ν){a:bE}{v:Value}(hv:VR w M H1 ν a v){τ:Ty}
  {k:τ.den→List Nat→jI→Option α} {r:α} (h:m9 true a H τ k=some r):
  ∃y rd ups M',k y rd ups=some r∧Tr c H1 w M ν (c4 H1 ups) w M' ν∧V w M' τ v y∧Fz H (c4 H1 ups)∧ ∀i,rd.contains i=false→c4 H1 ups i=H1 i:=by
 unfold m9 at h
 split at h
 ·
  obtain⟨e,h⟩:=bz h
  subst e
  simp only[VR]at hv
  exact⟨_,[],[],M,h,.refl hm,hv,hz,λ_ _=>rfl⟩
 ·
  obtain⟨e,h⟩:=bz h
  subst e
  simp only[VR]at hv
  exact⟨_,[],[],M,h,.refl hm,hv.1,hz,λ_ _=>rfl⟩
 ·
  split at h
  ·rename_i e k' _
   simp only[VR]at hv
   obtain⟨a,rfl⟩:=hv
   refine⟨[],[],[],M,h,.refl hm,V.slice.2 ?_,hz,λ_ _=>rfl⟩
   simp only[Rd]
   exact⟨a,0,rfl,aH _,λi hi=>absurd hi (by simp)⟩
  ·cases h
 ·rename_i id
  simp only[VR]at hv
  obtain⟨_,rfl⟩:=hv
  split at h
  ·rename_i e l bk
   obtain⟨e',h⟩:=bz h
   subst e'
   rcases hz id with h1|⟨e1,l1,h1,h2⟩
   ·rw[bk]at h1
    obtain⟨M',gF,hV,_⟩:=Tr.freeze hm h1
    refine⟨_,_,_,M',h,gF,hV,λi=> ?_,λi hi=>az _ _ (by simpa using hi)⟩
    show cq H1 id (some (.pM e l)) i=H i∨_
    by_cases hi:i=id
    ·subst hi;exact .inr ⟨e,l,bk,ay _ _ _⟩
    ·rw[az _ _ hi]
     rcases hz i with h'|⟨e2,l2,h2,h3⟩
     ·exact .inl h'
     ·exact .inr ⟨e2,l2,h2,by show cq H1 id _ i=_;rw[az _ _ hi];exact h3⟩
   ·rw[bk]at h1;cases h1
    have:=hm.ke id _ h2
    simp only[ER]at this
    refine⟨_,_,[(id,some (.pM e l))],M,h,?_,V.slice.2 this.1,?_,λi hi=>az _ _ (by simpa using hi)⟩
    ·show Tr c H1 w M ν (cq H1 id (some (.pM e l))) w M ν
     rw[CF h2];exact .refl hm
    ·show Fz H (cq H1 id (some (.pM e l)))
     rw[CF h2];exact hz
  ·rename_i e l bk
   obtain⟨e',h⟩:=bz h
   subst e'
   have h1:H1 id=some (.pM e l):=by
    rcases hz id with h1|⟨e1,l1,h1,h2⟩
    ·rw[h1,bk]
    ·rw[bk]at h1;cases h1
   have:=hm.ke id _ h1
   simp only[ER]at this
   exact⟨_,_,_,M,h,.refl hm,V.slice.2 this.1,hz,λ_ _=>rfl⟩
  ·cases h
 ·cases h
def Src(w:World)(M:Nat→Prop)(e:Ty)(v:Value)(l:List e.den):Prop:=
 ∃a cap,v= .slice a l.length cap∧ ∀i (h:i<l.length),∃b off cs,a=some ⟨b,off,none⟩∧At w b (off+i*e.size) cs∧Rd w M e cs l[i]
theorem Src.acb{w:World}{M:Nat→Prop}{e:Ty}{v:Value}{l:List e.den}(h:V w M (.slice e) v l):Src w M e v l:=by
 have h:=V.slice.1 h
 simp only[Rd,fT,fD]at h
 obtain⟨a,cap,rfl,_,hr⟩:=h
 refine⟨a,cap,rfl,λi hi=> ?_⟩
 obtain⟨b,off,ha,_,_,cs,pN,kE⟩:=hr i hi
 exact⟨b,off,cs,ha,pN,kE⟩
theorem DQ{α:Type}{c:Ctx}{H:Nat→Option br}{w:World}{M:Nat→Prop}{ν:Nat→Value}(hm:Mem c H w M ν){a:bE}{v:Value}(hv:VR w M H ν a v){e:Ty}
  {k:List e.den→List Nat→jI→Option α} {r:α} (h:m9 false a H (.slice e) k=some r):
  ∃y rd,k y rd []=some r∧Src w M e v y:=by
 unfold m9 at h
 split at h
 ·obtain⟨e',h⟩:=bz h
  subst e'
  simp only[VR]at hv
  exact⟨_,[],h,.acb hv⟩
 ·obtain⟨e',h⟩:=bz h
  subst e'
  simp only[VR]at hv
  exact⟨_,[],h,.acb hv.1⟩
 ·have h:k [] [] []=some r:=h
  simp only[VR]at hv
  obtain⟨a,rfl⟩:=hv
  exact⟨[],[],h,a,0,rfl,λi hi=>absurd hi (by simp)⟩
 ·rename_i id
  simp only[VR]at hv
  obtain⟨_,rfl⟩:=hv
  split at h
  ·rename_i e1 l bk
   obtain⟨e',h⟩:=bz h
   cases e'
   refine⟨_,_,h,?_⟩
   have:=hm.ke id _ bk
   simp only[ER]at this
   rcases this with⟨rfl,a,hv⟩|⟨b,cs,t,cap,hv,hb,hM,hc,hl,Fy,hs,hr⟩
   ·exact⟨a,0,hv,λi hi=>absurd hi (by simp)⟩
   ·refine⟨_,cap,hv,λi hi=>⟨b,0,_,rfl,?_,hr i hi⟩⟩
    rw[gr]
    exact At.of_block hb _ _
  ·rename_i e1 l bk
   obtain⟨e',h⟩:=bz h
   cases e'
   have:=hm.ke id _ bk
   simp only[ER]at this
   exact⟨_,_,h,.acb (V.slice.2 this.1)⟩
  ·cases h
 ·cases h
theorem Src.cells{w:World}{M:Nat→Prop}{e:Ty}{v:Value}{l:List e.den}(h:Src w M e v l)(kQ:l≠[]):
  ∃b off cap news,v= .slice (some ⟨b,off,none⟩) l.length cap∧news.length=l.length*e.size∧At w b off news∧
   (∀i (hi:i<l.length),Rd w M e ((news.drop (i*e.size)).take e.size) l[i])∧ ∀u∈news,u.oneCell'=true:=by
 obtain⟨a,cap,rfl,hr⟩:=h
 have h0:0<l.length:=p3.2 kQ
 obtain⟨b,off,_,ha,_⟩:=hr 0 h0
 subst ha
 have key: ∀n,n≤l.length→ ∃news:List Value,news.length=n*e.size∧At w b off news∧
   (∀i (hi:i<l.length),i<n→Rd w M e ((news.drop (i*e.size)).take e.size) l[i])∧ ∀u∈news,u.oneCell'=true:=by
  intro n
  induction n with
  |zero=>exact λ_=>⟨[],by simp,λj v hj=>by simp at hj,λi _ hi=>ω,by simp⟩
  |succ n ih=>
   intro hn
   obtain⟨news,hl,pN,kE,CG⟩:=ih ω
   obtain⟨b',aCK,cs,ha,avs,Vw⟩:=hr n ω
   cases ha
   refine⟨news++cs,by rw[aS,hl,Vw.length,eD,kV],At.append.2 ⟨pN,by rw[hl];exact avs⟩,λi hi kg=> ?_,λu hu=> ?_⟩
   ·by_cases eV:i<n
    ·have h1:(i+1)*e.size≤n*e.size:=kC _ eV
     rw[eD,kV]at h1
     rw[xi ω,yS (by rw[dY];omega)]
     exact kE i hi eV
    ·obtain rfl:i=n:=ω
     rw[mA hl,iG (by rw[Vw.length];exact aH _)]
     exact Vw
   ·rcases bn.1 hu with hu|hu
    ·exact CG u hu
    ·exact Vw.lM u hu
 obtain⟨news,hl,pN,kE,CG⟩:=key l.length (aH _)
 exact⟨b,off,cap,news,rfl,hl,pN,λi hi=>kE i hi hi,CG⟩
structure Core(c:Ctx)(σ:St)(tm:Array Value)(w:World)(M:Nat→Prop)(ν:Nat→Value):Prop where
 mem:Mem c σ.H w M ν
 tmp: ∀i,VR w M σ.H ν (σ.T i) (tm.getD i undef)
theorem Vx(w:World)(M:Nat→Prop)(H:Nat→Option br)(ν:Nat→Value)(v:Value):VR w M H ν (cvA v) v:=by
 unfold cvA
 split<;>simp[VR,V,Ty.isAgg,Rd]
theorem Core.op{c:Ctx}{σ:St}{tm:Array Value}{w:World}{M:Nat→Prop}{ν:Nat→Value}(h:Core c σ tm w M ν)(ds:List Deferred)(x:Operand):
  VR w M σ.H ν (σ.ρ x) (({tmps:=tm,defers:=ds}:Act).eval x):=by
 cases x with
 |tmp t=>exact h.tmp t
 |const v=>exact Vx w M σ.H ν v
 |global g=>simp[St.ρ,VR]
 |func f=>simp[St.ρ,VR,jQ,Act.eval]
def apl(P:Program)(t:TypeId)(τ:Ty):Prop:=
 ∀(w:World) (M:Nat→Prop) (u v:Value) (x y:τ.den) (b:BinOp) (xo yo:Operand),V w M τ u x→V w M τ v y→
  (eqGuard b t xo yo u v).run P w= .ok () w∧(binOp .eql t u v).run P w= .ok (.bool (pb τ x y)) w∧(binOp .neq t u v).run P w= .ok (.bool (!pb τ x y)) w
structure EnvTy(P:Program)(E:Env):Prop where
 ty: ∀t τ,E.ty t=some τ→kZ P τ t
 eq: ∀t τ,E.ty t=some τ→τ.comparable=true→τ.isAgg=true→apl P t τ
end VM
end
section
namespace VM
open Go
variable{P:Program}
theorem Bm{o:Oper}{ρ:Operand→Value}{t:TypeId}{i:TypeInfo}{z:Value}(ho:o.op= .alloc t)(hi:P.info? t=some i)(hz:i.zero=some z)(w:World):
  (execOp ρ o).run P w= .ok (.value (.pointer (some ⟨w.heap.size,0,none⟩))) (w.alloc (.cells z.cells t)):=by
 simp[execOp,ho,Instr.alloc,zeroValue,typeInfo,hi,hz,newVar,newRow]
theorem GB{o:Oper}{ρ:Operand→Value}{t:TypeId}{x:Operand}(ho:o.op= .box t x)(w:World):
  (execOp ρ o).run P w= .ok (.value (.pointer (some ⟨w.heap.size,0,none⟩))) (w.alloc (.cells (ρ x).cells t)):=by
 simp[execOp,ho,Instr.box,newVar,newRow]
theorem rP{τ:Ty}{t:TypeId}(h:kZ P τ t)(w:World):(isAgg t).run P w= .ok τ.isAgg w:=by
 unfold kZ at h
 cases τ<;>simp only[gD]at h
 ·simp[isAgg,run_underlying h.2,Ty.isAgg]
 ·simp[isAgg,run_underlying h.2,Ty.isAgg]
 ·simp[isAgg,run_underlying h.2,Ty.isAgg]
 ·obtain⟨_,e',h',_⟩:=h;simp[isAgg,run_underlying h',Ty.isAgg]
 ·obtain⟨_,e',h',_⟩:=h;simp[isAgg,run_underlying h',Ty.isAgg]
 ·obtain⟨_,e',f,h',_⟩:=h;simp[isAgg,run_underlying h',Ty.isAgg]
 ·obtain⟨_,e',h',_⟩:=h;simp[isAgg,run_underlying h',Ty.isAgg]
theorem dy{τ:Ty}{t:TypeId}(h:kZ P τ t)(w:World):(Go.sizeOf t).run P w= .ok τ.size w:=by
 obtain⟨i,hi,hs,_⟩:=h.base
 simp[Go.sizeOf,typeInfo,hi,hs]
theorem DR{w:World}{M:Nat→Prop}{τ:Ty}{t:TypeId}(h:kZ P τ t){b off:Nat}{cs:List Value}{x:τ.den}(ha:At w b off cs)(hr:Rd w M τ cs x):
  (loadVar t ⟨b,off,none⟩).run P w= .ok (ck τ cs) w:=by
 have hl:(loadCells ⟨b,off,none⟩ τ.size).run P w= .ok cs.toArray w:=by
  rw[←hr.length]
  exact run_loadCells_list w _ cs λj v hj=>by rw[show(⟨b,off,none⟩:Addr).add j=⟨b,off+j,none⟩from by unfold Addr.add;split<;>simp_all];exact ha j v hj
 unfold ck
 by_cases GC:τ.isAgg=true
 ·simp[loadVar,rP h,GC,dy h,hl]
 ·obtain⟨v,rfl,hc⟩:=hr.scalar (by simpa using GC)
  have h0:=ha 0 v rfl
  simp only[mC]at h0
  simp[loadVar,rP h,GC,load,Sem.run,h0]
theorem DS{w:World}{τ:Ty}{t:TypeId}(h:kZ P τ t)(GC:τ.isAgg=true){b off:Nat}{cs:List Value}(ha:At w b off cs)(hl:cs.length=τ.size):
  (loadVar t ⟨b,off,none⟩).run P w= .ok (.agg cs.toArray) w:=by
 have hl:(loadCells ⟨b,off,none⟩ τ.size).run P w= .ok cs.toArray w:=by
  rw[←hl]
  exact run_loadCells_list w _ cs λj v hj=>by rw[show(⟨b,off,none⟩:Addr).add j=⟨b,off+j,none⟩from by unfold Addr.add;split<;>simp_all];exact ha j v hj
 simp[loadVar,rP h,GC,dy h,hl]
theorem GD{o:Oper}{ρ:Operand→Value}{t:TypeId}{x:Operand}(ho:o.op= .load t x){w:World}{τ:Ty}(h:kZ P τ t)(GC:τ.isAgg=true){b off:Nat}{cs:List Value}
  (hx:ρ x= .pointer (some ⟨b,off,none⟩)) (ha:At w b off cs) (hl:cs.length=τ.size):
  (execOp ρ o).run P w= .ok (.value (.agg cs.toArray)) w:=by
 simp[execOp,ho,hx,Instr.loadAt,Instr.sureAddr,DS h GC ha hl]
theorem xL{o:Oper}{ρ:Operand→Value}{t:TypeId}{x:Operand}(ho:o.op= .load t x){w:World}{M:Nat→Prop}{τ:Ty}(h:kZ P τ t){b off:Nat}{cs:List Value}{y:τ.den}
  (hx:ρ x= .pointer (some ⟨b,off,none⟩)) (ha:At w b off cs) (hr:Rd w M τ cs y):
  (execOp ρ o).run P w= .ok (.value (ck τ cs)) w:=by
 simp[execOp,ho,hx,Instr.loadAt,Instr.sureAddr,DR h ha hr]
theorem lQ{o:Oper}{ρ:Operand→Value}{t:TypeId}{x y:Operand}(ho:o.op= .store t x y){w:World}{τ:Ty}(h:kZ P τ t){b off:Nat}{cur:Array Value}{te:TypeId}
  (hx:ρ x= .pointer (some ⟨b,off,none⟩)) (hg:w.heap[b]? =some (.cells cur te (0,0))) (hs:(ρ y).cells.size=τ.size) (hf:off+τ.size≤cur.size) (h1: ∀v∈(ρ y).cells.toList,v.oneCell'=true):
  (execOp ρ o).run P w= .ok .skip (w.setRow b (cur.toList.take off++(ρ y).cells.toList++cur.toList.drop (off+(ρ y).cells.toList.length)).toArray):=by
 have xd:=run_storeCells_at (P:=P) b off te (ρ y).cells.toList 0 cur w hg (by simp[hs];omega) h1
 simp only[mC]at xd
 simp[execOp,ho,hx,Instr.storeAt,Instr.sureAddr,storeVar,dy h,hs,xd]
theorem uZ{o:Oper}{ρ:Operand→Value}{t:TypeId}{x:Operand}{n:Nat}(ho:o.op= .fieldAddr t x n){w:World}{fs:Array Field}{f:Field}{b off:Nat}{υ:Ty}
  (hu:P.underlying t=some (.struct fs)) (hf:fs[n]? =some f) (hl:kZ P υ f.type) (hz:υ.size≠0) (hx:ρ x= .pointer (some ⟨b,off,none⟩)):
  ∃a,(execOp ρ o).run P w= .ok (.value a) w∧a= .pointer (some ⟨b,off+f.offset,none⟩):=by
 refine⟨_,?_,rfl⟩
 simp[execOp,ho,hx,Instr.fieldAt,Instr.sureAddr,run_underlying hu,hf,fieldPlace,Addr.add_lit,dy hl,hz]
theorem Bn{τ:Ty}{t:TypeId}(h:kZ P τ t){w:World}{M:Nat→Prop}{cs:Array Value}{off:Nat}{x:τ.den}(hr:Rd w M τ ((cs.toList.drop off).take τ.size) x):
  (part t cs off).run P w= .ok (ck τ ((cs.toList.drop off).take τ.size)) w:=by
 have hl:=hr.length
 unfold ck
 by_cases GC:τ.isAgg=true
 ·simp only[part,Sem.run_bind,rP h,Result.andThen_ok,GC,g9,dy h]
  simp
  rw[cf,dY,bm]at hl
  apply g8
  simp only[Array.toList_extract,List.extract_eq_take_drop,AP]
 ·obtain⟨v,hv,hc⟩:=hr.scalar (by simpa using GC)
  rw[hv]
  have h0:cs[off]? =some v:=by
   have:=e7 (λl=>l[0]?) hv
   simp only[mY,mZ]at this
   split at this
   ·simpa using this
   ·simp at this
  simp[part,rP h,GC,h0]
theorem LC{o:Oper}{ρ:Operand→Value}{t:TypeId}{x:Operand}{n:Nat}(ho:o.op= .field t x n){w:World}{M:Nat→Prop}{fs:Array Field}{f:Field}{cs:Array Value}{υ:Ty}{y:υ.den}
  (hu:P.underlying t=some (.struct fs)) (hf:fs[n]? =some f) (hl:kZ P υ f.type) (hx:ρ x= .agg cs) (hr:Rd w M υ ((cs.toList.drop f.offset).take υ.size) y):
  (execOp ρ o).run P w= .ok (.value (ck υ ((cs.toList.drop f.offset).take υ.size))) w:=by
 simp[execOp,ho,hx,Instr.field,run_underlying hu,hf,asAgg,Bn hl hr]
theorem mh{o:Oper}{ρ:Operand→Value}{t e:TypeId}{x i:Operand}(ho:o.op= .indexAddr t x i){w:World}{τe:Ty}{b off len cap:Nat}{k:IntKind}{n:Int}
  (hu:P.underlying t=some (.slice e)) (he:kZ P τe e) (hx:ρ x= .slice (some ⟨b,off,none⟩) len cap) (hi:ρ i= .int k n) (h0:0≤n) (h1:n<(len:Int)):
  (execOp ρ o).run P w= .ok (.value (.pointer (some ⟨b,off+n.toNat*τe.size,none⟩))) w:=by
 simp[execOp,ho,hx,hi,Instr.indexAt,asIntOf,run_underlying hu,h0,h1,dy he,Addr.add_lit]
theorem tP{o:Oper}{ρ:Operand→Value}{t e:TypeId}{x i:Operand}(ho:o.op= .indexAddr t x i){w:World}{τe:Ty}{b off len:Nat}{k:IntKind}{n:Int}
  (hu:P.underlying t=some (.array len e)) (he:kZ P τe e) (hx:ρ x= .pointer (some ⟨b,off,none⟩)) (hi:ρ i= .int k n) (h0:0≤n) (h1:n<(len:Int)):
  (execOp ρ o).run P w= .ok (.value (.pointer (some ⟨b,off+n.toNat*τe.size,none⟩))) w:=by
 simp[execOp,ho,hx,hi,Instr.indexAt,Instr.sureAddr,asIntOf,run_underlying hu,h0,h1,dy he,Addr.add_lit]
theorem Ju{o:Oper}{ρ:Operand→Value}{t e:TypeId}{x i:Operand}(ho:o.op= .index t x i){w:World}{M:Nat→Prop}{τe:Ty}{len:Nat}{k:IntKind}{n:Int}{cs:Array Value}{y:τe.den}
  (hu:P.underlying t=some (.array len e)) (he:kZ P τe e) (hx:ρ x= .agg cs) (hi:ρ i= .int k n) (h0:0≤n) (h1:n<(len:Int)) (hr:Rd w M τe ((cs.toList.drop (n.toNat*τe.size)).take τe.size) y):
  (execOp ρ o).run P w= .ok (.value (ck τe ((cs.toList.drop (n.toNat*τe.size)).take τe.size))) w:=by
 simp[execOp,ho,hx,hi,Instr.index,asIntOf,run_underlying hu,h0,h1,dy he,Bn he hr]
theorem GF{o:Oper}{ρ:Operand→Value}{x:Operand}{n:Nat}(ho:o.op= .extract x n){w:World}{us:List Value}{v:Value}(hx:ρ x= .tuple us.toArray)(hv:us[n]? =some v):
  (execOp ρ o).run P w= .ok (.value v) w:=by
 simp[execOp,ho,hx,Instr.extract,hv]
theorem N8{o:Oper}{ρ:Operand→Value}{x y z:Operand}(ho:o.op= .pick x y z){w:World}{b:Bool}(hx:ρ x= .bool b):
  (execOp ρ o).run P w= .ok (.value (if b then ρ y else ρ z)) w:=by
 simp[execOp,ho,hx,asBool]
theorem wN{o:Oper}{ρ:Operand→Value}{x:Operand}(ho:o.op= .nilCheck x){w:World}{a:Addr}(hx:ρ x= .pointer (some a)):
  (execOp ρ o).run P w= .ok (.value (.pointer (some a))) w:=by
 simp[execOp,ho,hx]
theorem EP{o:Oper}{ρ:Operand→Value}{f:FuncId}{first caps:Array Operand}(ho:o.op= .makeFunc (.func f) first caps)(hf:first= #[]){w:World}:
  (execOp ρ o).run P w= .ok (.value (.func (.func f) #[] (caps.map ρ))) w:=by
 subst hf
 simp[execOp,ho,Instr.makeFunc]
theorem GG{o:Oper}{ρ:Operand→Value}{s d:TypeId}{x:Operand}(ho:o.op= .convert s d x){w:World}{k k':IntKind}{n:Int}(hs:(P.underlying s).isSome=true)(hd:P.underlying d=some (.int k))(hx:ρ x= .int k' n):
  (execOp ρ o).run P w= .ok (.value (.int k (k.wrap n))) w:=by
 obtain⟨ds,hs⟩:=Option.isSome_iff_exists.1 hs
 simp[execOp,ho,hx,convert,run_underlying hs,run_underlying hd,Conv.intToInt]
theorem xM{o:Oper}{ρ:Operand→Value}{u:UnOp}{t:TypeId}{x:Operand}(ho:o.op= .unOp u t x){w:World}{v:Value}(h:(Op.unary u (ρ x)).run P w= .ok v w):
  (execOp ρ o).run P w= .ok (.value v) w:=by
 simp[execOp,ho,h]
theorem rn{o:Oper}{ρ:Operand→Value}{b:BinOp}{t t':TypeId}{x y:Operand}(ho:o.op= .binOp b t x y t'){w:World}{v:Value}
  (hg:(eqGuard b t x y (ρ x) (ρ y)).run P w= .ok () w) (h:(binOp b t (ρ x) (ρ y)).run P w= .ok v w):
  (execOp ρ o).run P w= .ok (.value v) w:=by
 simp[execOp,ho,hg,h]
theorem qK{b:BinOp}{t:TypeId}{x y:Operand}{k k':IntKind}{m n:Int}(w:World):(eqGuard b t x y (.int k m) (.int k' n)).run P w= .ok () w:=by
 cases b<;>simp[eqGuard]
theorem CH{b:BinOp}{t:TypeId}{x y:Operand}{m n:Bool}(w:World):(eqGuard b t x y (.bool m) (.bool n)).run P w= .ok () w:=by
 cases b<;>simp[eqGuard]
theorem ES{b:BinOp}{t:TypeId}{x y:Operand}{m n:ByteArray}(w:World):(eqGuard b t x y (.string m) (.string n)).run P w= .ok () w:=by
 cases b<;>simp[eqGuard]
theorem oh{o:Oper}{ρ:Operand→Value}{b:Builtin}{args:Array Operand}{ts:Array TypeId}(ho:o.op= .call {callee:= .builtin b,args,argTypes:=ts}){w:World}:
  ∃cs,(execOp ρ o).run P w=(builtin b ts o.type cs (args.map ρ)).run P w:=by
 refine⟨args.map fun| .const _=>true|_=>false,?_⟩
 simp[execOp,ho,resolve,invoke]
 rfl
end VM
end
