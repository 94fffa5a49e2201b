/- A part of the proof of AwardPays of layer 25: a machine that reads a function of the program as an equation between values. -/
import Derived.Test.YtocmlaipoebfeaaGreatVm1
set_option linter.all false
section
namespace VM
open Go
variable{P:Program}{E:Env}{o:Oper}{a:Act}{w:World}{M:Nat→Prop}{ν:Nat→Value}{σ:St}{c:Ctx}{α:Type}{r:α}{next:Act→World→Prop}{Q:Exit→Act→World→Prop}
theorem aO{v:Value}{w':World}(h:(execOp a.eval o).run P w= .ok (.value v) w')(hn:next (a.put o.dst v) w'):o.wp P a w next Q:=by
 unfold Oper.wp Oper.upon;rw[h];exact hn
theorem mS{w':World}(h:(execOp a.eval o).run P w= .ok .skip w')(hn:next (a.put o.dst undef) w'):o.wp P a w next Q:=by
 unfold Oper.wp Oper.upon;rw[h];exact hn
def dV(c:Ctx)(σ:St)(a:Act)(o:Oper)(w:World)(M:Nat→Prop)(ν:Nat→Value)(K:fE α)(r:α)(next:Act→World→Prop):Prop:=
 ∀v rd ups v' w' M' ν',K v rd ups=some r→Tr c σ.H w M ν (bU σ.H ups) w' M' ν'→VR w' M' (bU σ.H ups) ν' v v'→next (a.put o.dst v') w'
theorem Core.ev(h:Core c σ a.tmps w M ν)(x:Operand):VR w M σ.H ν (σ.ρ x) (a.eval x):=h.op a.defers x
theorem ju{x:aW}{k:IntKind→Int→Option α}(h:qU x k=some r): ∃(i:IntKind) (n:Int),x= .val (.int i) n∧k i n=some r:=by
 unfold qU at h
 split at h
 ·exact⟨_,_,rfl,h⟩
 ·cases h
theorem VR.int{H:Nat→Option aR}{k:IntKind}{n:Int}{v:Value}(h:VR w M H ν (.val (.int k) n) v):v= .int k n:=by
 simp only[VR,V,Ty.isAgg,auA,avq,Rd,auv,au3]at h;exact h
theorem VR.bool{H:Nat→Option aR}{b:Bool}{v:Value}(h:VR w M H ν (.val .bool b) v):v= .bool b:=by
 simp only[VR,V,Ty.isAgg,auA,avq,Rd,auv,au3]at h;exact h
theorem VR.str{H:Nat→Option aR}{b:ByteArray}{v:Value}(h:VR w M H ν (.val .str b) v):v= .string b:=by
 simp only[VR,V,Ty.isAgg,auA,avq,Rd,auv,au3]at h;exact h
theorem VR.mkInt{H:Nat→Option aR}(k:IntKind)(n:Int):VR w M H ν (.val (.int k) n) (.int k n):=by simp[VR,V,Ty.isAgg,Rd]
theorem VR.pC{H:Nat→Option aR}(b:Bool):VR w M H ν (.val .bool b) (.bool b):=by simp[VR,V,Ty.isAgg,Rd]
theorem VR.mkStr{H:Nat→Option aR}(b:ByteArray):VR w M H ν (.val .str b) (.string b):=by simp[VR,V,Ty.isAgg,Rd]
theorem JJ(hc:Core c σ a.tmps w M ν){x:Operand}(ho:o.op= .move x∨o.op= .assign x){K:fE α}(h:K (σ.ρ x) [] []=some r)(hn:dV c σ a o w M ν K r next):o.wp P a w next Q:=by
 have hr:(execOp a.eval o).run P w= .ok (.value (a.eval x)) w:=by
  rcases ho with ho|ho
  ·simp[execOp,ho]
  ·simp[execOp,ho]
 exact aO hr (hn _ _ _ _ _ _ _ h (.refl hc.mem) (hc.ev x))
theorem Rb(hc:Core c σ a.tmps w M ν){x y z:Operand}(ho:o.op= .pick x y z){K:fE α}{t:Bool}(hx:σ.ρ x= .val .bool t)(h:cond t (K (σ.ρ y) [] []) (K (σ.ρ z) [] [])=some r)
  (hn:dV c σ a o w M ν K r next):o.wp P a w next Q:=by
 have hv:=hc.ev x
 rw[hx]at hv
 refine aO (Em ho hv.bool) ?_
 cases t
 ·exact hn _ _ _ _ _ _ _ h (.refl hc.mem) (hc.ev z)
 ·exact hn _ _ _ _ _ _ _ h (.refl hc.mem) (hc.ev y)
theorem ig{H:Nat→Option aR}{id:Nat}{e:aR}{K:Option α}(h:mM H id e K=some r):H id=none∧K=some r:=by
 unfold mM at h
 split at h
 ·rename_i h';exact⟨h',h⟩
 ·cases h
theorem VR.Xd{H:Nat→Option aR}{id:Nat}{τ:Ty}{x:τ.den}{b:Nat}(aT:H id=some (.obj τ x))(hν:ν id= .pointer (some ⟨b,0,none⟩)):VR w M H ν (.fA id []) (.pointer (some ⟨b,0,none⟩)):=by
 simp only[VR]
 exact⟨_,aT,trivial,b,hν,rfl⟩
theorem VR.Nl{H:Nat→Option aR}{id:Nat}{τ:Ty}{x:τ.den}{q:List Step}{j b:Nat}(aT:H id=some (.dY τ x q j))(hν:ν id= .pointer (some ⟨b,0,none⟩)):VR w M H ν (.fA id []) (.pointer (some ⟨b,0,none⟩)):=by
 simp only[VR]
 exact⟨_,aT,trivial,b,hν,rfl⟩
theorem eI(τ:Ty):(bK τ τ.cf).cells.toList=τ.cf:=AK (Rd.zero default (fun _=>False) τ)
theorem Eo: ∀{τ:Ty} {n:Nat} {a:Ty},Cq τ n=some a→ ∃l m,τ.cf=l++(a.cf++m)∧l.length=nF τ n:=by
 intro τ
 induction τ with
 |pair a b _ Nk=>
  intro n c h
  cases n with
  |zero=>cases h;exact⟨[],b.cf,rfl,rfl⟩
  |succ n=>
   obtain⟨l,m,h1,h2⟩:=Nk (n:=n) (a:=c) h
   refine⟨a.cf++l,m,by simp only[Ty.cf];rw[h1,atV],?_⟩
   rw[atJ,h2,(Rd.zero default (fun _=>False) a).length];rfl
 |_=>intro n c h;simp[Cq]at h
theorem uw: ∀{p:List Step} {τ υ:Ty},eC p τ υ=true→ ∃l m,τ.cf=l++(υ.cf++m)∧l.length=bD p τ
 |[],τ,υ,h=>by
  have h:=atY h
  subst h
  exact⟨[],[],by simp,rfl⟩
 | .gL n::p,τ,υ,h=>by
  unfold eC at h
  split at h
  ·rename_i a ha
   obtain⟨l,m,h1,h2⟩:=Eo ha
   obtain⟨l',m',h3,h4⟩:=uw h
   obtain⟨_,_,hf⟩:=o4 ha τ.zero
   have:=hf.eq.1
   subst this
   refine⟨l++l',m'++m,by rw[h1,h3];simp,?_⟩
   rw[atJ,h2,h4];rfl
  ·cases h
 | .idx _::_,_,_,h=>by simp[eC]at h
theorem Br{p:List Step}{τ e:Ty}(h:eC p τ (.slice e)=true):τ.cf[bD p τ]? =some (.slice none 0 0):=by
 obtain⟨l,m,h1,h2⟩:=uw h
 rw[h1,auI (by omega),h2,awR];rfl
theorem bB{b:Bool}{K:Option α}(h:cond b K none=some r):b=true∧K=some r:=by
 cases b
 ·cases h
 ·exact⟨rfl,h⟩
theorem JK{τ:Ty}{q:List Step}{e:Ty}(h:lkT E τ=some (q,e)):eC q τ (.slice e)=true:=by
 unfold lkT at h
 split at h
 ·rename_i υ q' e' _ _
  cases hd:decide (υ=τ)<;>rw[hd]at h
  ·cases h
  ·simp only[atC]at h
   cases hp:eC q' τ (.slice e')<;>rw[hp]at h
   ·cases h
   ·cases h;exact hp
 ·cases h
theorem pa{τ:Ty}{id:Nat}{q:List Step}{e:Ty}(h:Cs E τ id=some (q,e)):eC q τ (.slice e)=true:=by
 unfold Cs at h
 split at h
 ·exact JK (bB h).2
 ·cases h
theorem yE{H:Nat→Option aR}{id:Nat}{τ:Ty}{x:τ.den}{q:List Step}{e:Ty}{K:fE α}(h:xk H id τ x q e K=some r):H id=none∧H (id+1)=none∧K (.fA id []) [id,id+1] [(id,some (.dY τ x q (id+1))),(id+1,some (.own e []))]=some r:=by
 unfold xk at h
 obtain⟨h1,h⟩:=ig h
 obtain⟨h2,h⟩:=ig h
 exact⟨h1,h2,h⟩
theorem K0{H:Nat→Option aR}{i j:Nat}{u v:Option aR}(h:i≠j):bo (bo H i u) j v=bo (bo H j v) i u:=by
 funext k
 by_cases hi:k=i
 ·subst hi;rw[al _ _ h,ak,ak]
 ·by_cases hj:k=j
  ·subst hj;rw[ak,al _ _ hi,ak]
  ·rw[al _ _ hj,al _ _ hi,al _ _ hi,al _ _ hj]
theorem ti{H:Nat→Option aR}{i:Nat}{u v:Option aR}:bo (bo H i u) i v=bo H i v:=by
 funext k
 by_cases hi:k=i
 ·subst hi;rw[ak,ak]
 ·rw[al _ _ hi,al _ _ hi,al _ _ hi]
theorem Tr.Nm{H:Nat→Option aR}(h:Mem c H w M ν){id k:Nat}(hk:H k=none){τ:Ty}{x:τ.den}(aT:H id=some (.obj τ x)){b:Nat}{cs:Array Value}{t:TypeId}(hb:ν id= .pointer (some ⟨b,0,none⟩))(hg:w.heap[b]? =some (.cells cs t (0,0)))
  {q:List Step} {e:Ty} (hq:eC q τ (.slice e)=true) {ad:Option Addr} (hz:cs.toList[bD q τ]? =some (.slice ad 0 0)):
  Tr c H w M ν (bU H [(id,some (.dY τ x q k)),(k,some (.own e []))]) w M (cn ν k (.slice ad 0 0)):=by
 have ib:k≠id:=fun e=>by rw[e,aT]at hk;cases hk
 have h2:=Tr.nothing h hk e ad
 have hd2:bo H k (some (.own e [])) id=some (.obj τ x):=by rw[al _ _ (avr ib)];exact aT
 have hν:cn ν k (.slice ad 0 0) id= .pointer (some ⟨b,0,none⟩):=by unfold cn;rw[atL (avr ib)];exact hb
 have hν1:cn ν k (.slice ad 0 0) k= .slice ad 0 0:=by simp[cn]
 have he:=h2.mem.iT id _ hd2
 simp only[ER]at he
 obtain⟨b',cs',t',dx,Yu,hM,g4⟩:=he
 rw[hν]at dx;cases dx
 rw[hg]at Yu;cases Yu
 have h3:=Tr.KX h2.mem hd2 trivial (e':= .dY τ x q k) trivial rfl (fun _ _=>by simp) (by
   rw[hν];simp only[ER]
   exact⟨_,cs,t,cs.toList,.slice ad 0 0,rfl,hg,hM,g4,(Eh hz).symm,rfl,e,hq⟩)
  (fun τ' x' p' j' hl=>by
   cases hl
   refine⟨by rw[ak];simp,_,hν,?_⟩
   rw[hν1,cell_of hg,←auo];exact hz)
 rw[K0 (i:=k) (j:=id) ib]at h3
 exact h2.trans h3
theorem Tr.xk{H:Nat→Option aR}(h:Mem c H w M ν){id:Nat}(aT:H id=none)(lG:H (id+1)=none)(t:TypeId){τ:Ty}{cs:Array Value}{x:τ.den}(hr:Rd w M τ cs.toList x){q:List Step}{e:Ty}(hq:eC q τ (.slice e)=true){ad:Option Addr}
  (hz:cs.toList[bD q τ]? =some (.slice ad 0 0)):
  ∃M' ν',Tr c H w M ν (bU H [(id,some (.dY τ x q (id+1))),(id+1,some (.own e []))]) (w.alloc (.cells cs t)) M' ν'∧ν' id= .pointer (some ⟨w.heap.size,0,none⟩):=by
 have h1:=Tr.var h aT t hr
 have h2:=Tr.Nm h1.mem (id:=id) (k:=id+1) (by rw[al _ _ (by omega)];exact lG) (ak _ _ _) (by simp[cn]) (yA w _) hq hz
 have e1:bU (bo H id (some (.obj τ x))) [(id,some (.dY τ x q (id+1))),(id+1,some (.own e []))]=bU H [(id,some (.dY τ x q (id+1))),(id+1,some (.own e []))]:=by
  show bo (bo (bo H id _) id _) (id+1) _=bo (bo H id _) (id+1) _
  rw[ti]
 rw[e1]at h2
 exact⟨_,_,h1.trans h2,by simp[cn]⟩
theorem Nn(hE:EnvTy P E)(hc:Core c σ a.tmps w M ν){t:TypeId}(ho:o.op= .alloc t){K:fE α}{τ:Ty}(ht:E.ty t=some τ){id:Nat}
  (h:(match Cs E τ id with
   |some (q,e)=>xk σ.H id τ τ.zero q e K
   |none=>mM σ.H id (.obj τ τ.zero) (K (.fA id []) [id] [(id,some (.obj τ τ.zero))]))=some r) (hn:dV c σ a o w M ν K r next):o.wp P a w next Q:=by
 obtain⟨i,hi,hs,hz,_⟩:=(hE.ty t τ ht).base
 have hr:Rd w M τ (bK τ τ.cf).cells.toList τ.zero:=by rw[eI];exact Rd.zero w M τ
 split at h
 ·rename_i q e oK
  obtain⟨aT,lG,h⟩:=yE h
  obtain⟨M',ν',eY,hν⟩:=Tr.xk hc.mem aT lG t hr (pa oK) (by rw[eI];exact Br (pa oK))
  refine aO (uu ho hi hz w) (hn _ _ _ _ _ M' ν' h eY ?_)
  exact VR.Nl (by show bo _ (id+1) _ id=_;rw[al _ _ (by omega),ak]) hν
 ·obtain⟨aT,h⟩:=ig h
  refine aO (uu ho hi hz w) (hn _ _ _ _ _ _ _ h (Tr.var hc.mem aT t hr) (VR.Xd (ak _ _ _) (by simp[cn])))
theorem JL(hE:EnvTy P E)(hc:Core c σ a.tmps w M ν){t:TypeId}{x:Operand}(ho:o.op= .box t x){K:fE α}{τ:Ty}{id:Nat}
  (h:iF true (σ.ρ x) σ.H τ (fun y rd ups=>mM σ.H id (.obj τ y) (K (.fA id []) (id::rd) (ups++[(id,some (.obj τ y))])))=some r) (hn:dV c σ a o w M ν K r next):o.wp P a w next Q:=by
 obtain⟨y,rd,ups,M',h,eY,hV,hz,_⟩:=j2 (.refl _) hc.mem (hc.ev x) h
 obtain⟨aT,h⟩:=ig h
 have Yv:bU σ.H ups id=none:=hz.none aT
 have q6:=eY.trans (Tr.var eY.mem Yv t hV.cells)
 refine aO (yB ho w) (hn _ _ _ _ _ (fun b=>M' b∨b=w.heap.size) (cn ν id (.pointer (some ⟨w.heap.size,0,none⟩))) h ?_ ?_)
 ·rw[ei];exact q6
 ·rw[ei];exact VR.Xd (ak _ _ _) (by simp[cn])
theorem Yw(hE:EnvTy P E)(hc:Core c σ a.tmps w M ν){t:TypeId}{x:Operand}(ho:o.op= .box t x){K:fE α}{τ:Ty}{id:Nat}
  (h:(match Cs E τ id,σ.ρ x with
   |some ([.gL m],e),.Cr υ y n=>cond (Nat.beq m n) (ca υ τ y fun y=>xk σ.H id τ y [.gL m] e K) (iF true (σ.ρ x) σ.H τ (fun y rd ups=>mM σ.H id (.obj τ y) (K (.fA id []) (id::rd) (ups++[(id,some (.obj τ y))]))))
   |_,_=>iF true (σ.ρ x) σ.H τ (fun y rd ups=>mM σ.H id (.obj τ y) (K (.fA id []) (id::rd) (ups++[(id,some (.obj τ y))]))))=some r) (hn:dV c σ a o w M ν K r next):o.wp P a w next Q:=by
 split at h
 ·rename_i m e υ y n oK hx
  cases hb:Nat.beq m n
  ·rw[hb]at h
   exact JL hE hc ho h hn
  ·rw[hb]at h
   have yF:=auj hb
   subst yF
   simp only[atC]at h
   obtain⟨e1,h⟩:=aY h
   subst e1
   obtain⟨aT,lG,h⟩:=yE h
   have hv:=hc.ev x
   rw[hx]at hv
   simp only[VR]at hv
   obtain⟨hV,cs,ad,hva,hz⟩:=hv
   have CA:(a.eval x).cells.toList=cs.toList:=by rw[hva];rfl
   obtain⟨M',ν',eY,hν⟩:=Tr.xk hc.mem aT lG t hV.cells (pa oK) (ad:=ad) (by rw[CA];simpa [bD]using hz)
   refine aO (yB ho w) (hn _ _ _ _ _ M' ν' h eY ?_)
   exact VR.Nl (by show bo _ (id+1) _ id=_;rw[al _ _ (by omega),ak]) hν
 ·exact JL hE hc ho h hn
theorem pD{i:Int}{n:Nat}(h:aM i n=true):0≤i∧i<(n:Int):=by rw[Ng]at h;simpa using h
theorem iU{b:Bool}{K:Option α}(h:cond b none K=some r):b=false∧K=some r:=by
 cases b
 ·exact⟨rfl,h⟩
 ·cases h
theorem wB(hm:Mem c σ.H w M ν){x:aW}{u:Value}(hv:VR w M σ.H ν x u){K:(υ:Ty)→υ.den→List Nat→Option α}(h:g3 x σ.H K=some r):
  ∃υ y rd,K υ y rd=some r∧ ∃b off cs,u= .pointer (some ⟨b,off,none⟩)∧At w b off cs∧Rd w M υ cs y:=by
 unfold g3 at h
 split at h
 ·simp only[VR]at hv
  obtain⟨b,off,rfl,_,_,cs,ha,hr⟩:=hv
  exact⟨_,_,_,h,b,off,cs,rfl,ha,hr⟩
 ·rename_i id p
  simp only[VR]at hv
  obtain⟨e,he,jO⟩:=hv
  have jh:=hm.iT id e he
  rw[he]at h
  cases e with
  |obj τ x=>
   obtain⟨υ,y,o',hp,hK⟩:=gr h
   simp only[AR]at jO
   obtain⟨hi,b,hb,rfl⟩:=jO
   simp only[ER]at jh
   obtain⟨b',cs,t,dx,hg,_,hr⟩:=jh
   rw[hb]at dx;cases dx
   have:=hp.eq.2
   subst this
   exact⟨υ,y,_,hK,b,_,_,rfl,At.of_block hg _ _,hp.rd hi hr⟩
  |own e l=>
   simp only[AR]at jO
   obtain⟨i,q,rfl,AP,hi,b,n,cp,hb,rfl⟩:=jO
   obtain⟨υ,y,o',hp,hK⟩:=gr h
   simp only[ER]at jh
   rcases jh with⟨rfl,_⟩|⟨b',cs,t,cap,dx,hg,_,MZ,hl,AB,hs,hr⟩
   ·simp at AP
   ·rw[hb]at dx;cases dx
    have:=hp.eq.2
    subst this
    have h1:=hr i AP
    rw[←gN l i e.zero AP]at h1
    have h2:=hp.rd hi h1
    have h3:=hp.bound hi
    rw[avE,auV,avF,auL (by omega)]at h2
    exact⟨υ,y,_,hK,b,_,_,rfl,At.of_block hg _ _,h2⟩
  |kF e l=>
   simp only[AR]at jO
   obtain⟨i,q,rfl,AP,hi,b,n,cp,hb,rfl⟩:=jO
   obtain⟨υ,y,o',hp,hK⟩:=gr h
   simp only[ER]at jh
   have g4:=jh.1
   simp only[Rd,auv,au3]at g4
   obtain⟨a0,cap,ha0,_,hr⟩:=g4
   obtain⟨b',off,rfl,_,_,cs,ma,QI⟩:=hr i AP
   rw[hb]at ha0;cases ha0
   have:=hp.eq.2
   subst this
   rw[auP]at ma
   have adB:Rd w M e cs (List.getD l i e.zero):=by rw[gN l i e.zero AP];exact QI
   have h2:=hp.rd hi adB
   have h3:=hp.bound hi
   have Ra:=adB.length
   refine⟨υ,y,_,hK,b,_,_,rfl,?_,h2⟩
   intro j v hj
   rw[auN]at hj
   split at hj
   ·rw[auO]at hj
    have:=ma _ v hj
    rwa [←avA]at this
   ·cases hj
  |dY _ _ _ _=>cases h
  |gone=>cases h
 ·cases h
theorem Mem.linked{H:Nat→Option aR}(hm:Mem c H w M ν){id:Nat}{τ:Ty}{x:τ.den}{q:List Step}{j:Nat}(aT:H id=some (.dY τ x q j)):
  ∃b cs t nW e,ν id= .pointer (some ⟨b,0,none⟩)∧w.heap[b]? =some (.cells cs t (0,0))∧M b∧Rd w M τ nW x∧cs.toList=di nW (bD q τ) [ν j]∧(ν j).oneCell'=true∧eC q τ (.slice e)=true∧bD q τ<nW.length∧H j≠none:=by
 have jh:=hm.iT id _ aT
 simp only[ER]at jh
 obtain⟨b,cs,t,nW,u,hb,hg,hM,hr,CA,h1,e,hq⟩:=jh
 obtain⟨hj,b',dx,JM⟩:=hm.dY id _ _ _ _ aT
 rw[hb]at dx;cases dx
 obtain⟨y,o,hp⟩:=o5 hq x
 have dZ:bD q τ<nW.length:=by
  have:=hp.bound (gO hq).1
  have h2:=hp.eq.2
  have h3:=hr.length
  have:(Ty.slice e).size=1:=rfl
  omega
 have hu:u=ν j:=by
  rw[cell_of hg,←auo,CA,ya dZ]at JM
  exact avd JM
 subst hu
 exact⟨b,cs,t,nW,e,hb,hg,hM,hr,CA,h1,hq,dZ,hj⟩
theorem tj{H:Nat→Option aR}(hm:Mem c H w M ν){id:Nat}{τ:Ty}{x:τ.den}{q:List Step}{j:Nat}(aT:H id=some (.dY τ x q j)){k:τ.den→fD→Option α}(h:xj j q τ x H k=some r):
  ∃z ups M',k z ups=some r∧Tr c H w M ν (bU H ups) w M' ν∧Fz H (bU H ups)∧((∃e l,H j=some (.kF e l)∧ups=[])∨ ∃e l,H j=some (.own e l)∧ups=[(j,some (.kF e l))])∧ ∃b cs t,ν id= .pointer (some ⟨b,0,none⟩)∧w.heap[b]? =some (.cells cs t (0,0))∧M' b∧Rd w M' τ cs.toList z:=by
 obtain⟨b,cs,t,nW,e0,hb,hg,hM,hr,CA,h1,hq,dZ,hj⟩:=hm.linked aT
 have No:=(gO hq).1
 unfold xj at h
 split at h
 ·rename_i e l wC
  obtain⟨z,hz,AQ,AF,sH⟩:=kR h
  obtain⟨M',eY,hV,hM'⟩:=Tr.freeze hm wC
  refine⟨z,_,M',hz,eY,fun i=> ?_,.inr ⟨e,l,wC,rfl⟩,b,cs,t,hb,hg,?_,?_⟩
  ·by_cases hi:i=j
   ·subst hi;exact .inr ⟨e,l,wC,ak _ _ _⟩
   ·exact .inl (al _ _ hi)
  ·refine(hM' b).2 ⟨hM,fun hjb=> ?_⟩
   have ib:j≠id:=fun e=>by rw[e,aT]at wC;cases wC
   exact hm.vy j id _ _ b ib wC trivial aT trivial hjb (by rw[hb];rfl)
  ·rw[CA]
   exact sH w M' nW [ν j] No (hr.bp eY.bp) (V.slice.1 hV)
 ·rename_i e l wC
  obtain⟨z,hz,AQ,AF,sH⟩:=kR h
  have jh:=hm.iT j _ wC
  simp only[ER]at jh
  refine⟨z,_,M,hz,.refl hm,.refl H,.inl ⟨e,l,wC,rfl⟩,b,cs,t,hb,hg,hM,?_⟩
  rw[CA]
  exact sH w M nW [ν j] No hr jh.1
 ·cases h
theorem acO{τ υ:Ty}{t:TypeId}(hE:EnvTy P E)(ht:E.ty t=some τ)(h:eC ([]:List Step) υ τ=true):υ=τ:=atY h
theorem Rd.Yx{e:Ty}{v:Value}{cs:List Value}{l:List e.den}(h:Rd w M (.slice e) cs l): ∃a n cap,cs=[.slice a n cap]:=by
 simp only[Rd]at h
 obtain⟨a,cap,rfl,_⟩:=h
 exact⟨a,_,cap,rfl⟩
theorem AS{ρ:Operand→Value}{t:TypeId}{x:Operand}(ho:o.op= .load t x){τ:Ty}(h:gM P τ t)(ha:τ.isAgg=false){b off:Nat}{v:Value}(hx:ρ x= .pointer (some ⟨b,off,none⟩))(hc:w.cell? ⟨b,off,none⟩=some v):
  (execOp ρ o).run P w= .ok (.value v) w:=by
 have:(loadVar t ⟨b,off,none⟩).run P w= .ok v w:=by
  simp[loadVar,o7 h,ha,load,Sem.run,hc]
 simp[execOp,ho,hx,Instr.loadAt,Instr.sureAddr,this]
theorem Ep(hE:EnvTy P E)(hc:Core c σ a.tmps w M ν){t:TypeId}{x:Operand}(ho:o.op= .load t x){K:fE α}{τ:Ty}(ht:E.ty t=some τ)
  (h:g3 (σ.ρ x) σ.H (fun υ y rd=>ca υ τ y fun z=>K (.val τ z) rd [])=some r) (hn:dV c σ a o w M ν K r next):o.wp P a w next Q:=by
 obtain⟨υ,y,rd,h,b,off,cs,hu,ma,hr⟩:=wB hc.mem (hc.ev x) h
 obtain⟨e,h⟩:=aY h
 subst e
 refine aO (q3 ho (hE.ty t _ ht) hu ma hr) (hn _ _ _ _ _ _ _ h (.refl hc.mem) ?_)
 simp only[VR]
 exact V.bK hr
theorem Rc(hE:EnvTy P E)(hc:Core c σ a.tmps w M ν){t:TypeId}{x:Operand}(ho:o.op= .load t x){K:fE α}{τ:Ty}(ht:E.ty t=some τ)
  (h:qv τ (σ.ρ x) σ.H K=some r) (hn:dV c σ a o w M ν K r next):o.wp P a w next Q:=by
 unfold qv at h
 simp only at h
 split at h
 ·rename_i id p hx
  split at h
  ·rename_i υ z q j aT
   have hv:=hc.ev x
   rw[hx]at hv
   simp only[VR]at hv
   obtain⟨e1,H9,jO⟩:=hv
   rw[aT]at H9;cases H9
   simp only[AR]at jO
   obtain⟨hi,b,hb,hu⟩:=jO
   obtain⟨b',cs,te,nW,e0,dx,hg,hM,hr,CA,h1,hq,dZ,hj⟩:=hc.mem.linked aT
   rw[hb]at dx;cases dx
   cases hp:D6 p q
   ·rw[hp]at h
    cases Ei:sD p q
    ·
     rw[Ei]at h
     simp only[atH]at h
     obtain⟨υ',y,o',sI,h⟩:=gr h
     obtain⟨e2,h⟩:=aY h
     subst e2
     have hap:=sI.apart hi hq Ei
     have ho':=sI.eq.2
     subst ho'
     have AF:=sI.bound hi
     have hlen:=hr.length
     have g4:Rd w M υ' ((cs.toList.drop (bD p υ)).take υ'.size) y:=by
      rw[CA,Cx (by simp only[atG];omega) (by simp only[atG];omega)]
      exact sI.rd hi hr
     refine aO (q3 ho (hE.ty t _ ht) hu (At.of_block hg _ _) g4) (hn _ _ _ _ _ M ν h (.refl hc.mem) ?_)
     simp only[VR]
     exact V.bK g4
    ·
     rw[Ei]at h
     simp only[atH,atC]at h
     obtain⟨z',ups,M',h,eY,_,_,b2,Yy,t2,th,Er,CB,DW⟩:=tj hc.mem aT h
     rw[hb]at th;cases th
     rw[hg]at Er;cases Er
     obtain⟨υ',y,o',sI,h⟩:=gr h
     obtain⟨e2,h⟩:=aY h
     subst e2
     have ho':=sI.eq.2
     subst ho'
     have g4:=sI.rd hi DW
     refine aO (q3 ho (hE.ty t _ ht) hu (At.of_block hg _ _) g4) (hn _ _ _ _ _ M' ν h eY ?_)
     simp only[VR]
     exact V.bK g4
   ·
    rw[hp]at h
    have:=vC hp
    subst this
    simp only[atC]at h
    obtain⟨hpq,hK⟩:=bB h
    have hτ:τ= .slice e0:=(gO hpq).2.symm.trans (gO hq).2
    subst hτ
    have JM:w.cell? ⟨b,bD p υ,none⟩=some (ν j):=by rw[cell_of hg,←auo,CA,ya dZ]
    refine aO (AS ho (hE.ty t _ ht) rfl hu JM) (hn _ _ _ _ _ M ν hK (.refl hc.mem) ?_)
    simp only[VR]
    exact⟨hj,trivial⟩
  ·exact Ep hE hc ho ht h hn
 ·exact Ep hE hc ho ht h hn
end VM
end
section
namespace VM
open Go
variable{P:Program}{E:Env}{o:Oper}{a:Act}{w:World}{M:Nat→Prop}{ν:Nat→Value}{σ:St}{c:Ctx}{α:Type}{r:α}{next:Act→World→Prop}{Q:Exit→Act→World→Prop}
theorem Fz.own{H H1:Nat→Option aR}(h:Fz H H1){i:Nat}{e:Ty}{l:List e.den}(hi:H i=some (.own e l)):H1 i=some (.own e l)∨H1 i=some (.kF e l):=by
 rcases h i with h'|⟨e',l',h1,h2⟩
 ·exact .inl (by rw[h',hi])
 ·rw[hi]at h1;cases h1;exact .inr h2
theorem K1(hE:EnvTy P E)(hc:Core c σ a.tmps w M ν){t:TypeId}{x y:Operand}(ho:o.op= .store t x y){K:fE α}{τ:Ty}(ht:E.ty t=some τ)
  (h:iH τ (σ.ρ x) (σ.ρ y) σ.H K=some r) (hn:dV c σ a o w M ν K r next):o.wp P a w next Q:=by
 unfold iH at h
 split at h
 ·rename_i id p hx
  obtain⟨z,rd,ups,M',h,eY,hV,hz,g4⟩:=j2 (.refl _) hc.mem (hc.ev y) h
  have hv:=hc.ev x
  rw[hx]at hv
  have Yz:=VR.bp eY.bp eY.goes hv
  have ux:=hE.ty t τ ht
  have DX:=hV.cells.length
  rw[atO]at DX
  split at h
  ·rename_i υ x0 aT
   have lG:=hz.obj aT
   obtain⟨x1,hK,AQ,AF,sH⟩:=kR h
   simp only[VR]at Yz
   obtain⟨e1,H9,jO⟩:=Yz
   rw[lG]at H9;cases H9
   simp only[AR]at jO
   obtain⟨hi,b,hb,hu⟩:=jO
   have jh:=eY.mem.iT id _ lG
   simp only[ER]at jh
   obtain⟨b',cs,te,dx,hg,hM,hr⟩:=jh
   rw[hb]at dx;cases dx
   have AF:=AF hi
   have Ra:=hr.length
   rw[atO]at Ra
   have cD:=jt (P:=P) ho ux hu hg DX (by omega) hV.cells.kG
   rw[atO]at cD
   have q6:Tr c (bU σ.H ups) w M' ν (bo (bU σ.H ups) id (some (.obj υ x1))) (w.setRow b (di cs.toList (bD p υ) (a.eval y).cells.toList).toArray) M' ν:=by
    refine Tr.write (e':= .obj υ x1) eY.mem lG trivial trivial rfl (by rw[hb];rfl) hg fun HF hk vF=> ?_
    simp only[ER]
    refine⟨b,_,te,hb,setRow_heap w b cs _ te _ hg,vF,?_⟩
    exact(sH w M' cs.toList _ hi hr hV.cells).bp hk
   refine mS cD ?_
   refine hn _ _ _ _ _ M' ν hK ?_ (by simp[VR])
   rw[ei]
   have:=eY.trans q6
   unfold di at this
   rw[atO]at this
   exact this
  ·rename_i e l aT
   split at h
   ·rename_i i q h0
    obtain⟨xt,h⟩:=iU h
    have lG:bU σ.H ups id=some (.own e l):=by rw[g4 id xt];exact aT
    obtain⟨y1,hK,AQ,AF,sH⟩:=kR h
    simp only[VR]at Yz
    obtain⟨e1,H9,jO⟩:=Yz
    rw[lG]at H9;cases H9
    simp only[AR]at jO
    obtain⟨i',q',hpq,AP,hi,b,n,cp,hb,hu⟩:=jO
    cases hpq
    have jh:=eY.mem.iT id _ lG
    simp only[ER]at jh
    rcases jh with⟨rfl,_⟩|⟨b',cs,te,cap,dx,hg,hM,MZ,hl,AB,hs,hr⟩
    ·simp at AP
    ·rw[hb]at dx;cases dx
     have AF:=AF hi
     have o6:=cR (s:=e.size) AP
     have ur:l.length*e.size≤cp*e.size:=auJ _ hl
     have cD:=jt (P:=P) ho ux hu hg DX (by omega) hV.cells.kG
     rw[atO]at cD
     have hri:=hr i AP
     rw[←gN l i e.zero AP]at hri
     have nG:=sH w M' _ _ hi hri hV.cells
     have hch:((cs.toList.drop (i*e.size)).take e.size).length=e.size:=hri.length
     have Re:di cs.toList (i*e.size) (di ((cs.toList.drop (i*e.size)).take e.size) (bD q e) (a.eval y).cells.toList)=di cs.toList (i*e.size+bD q e) (a.eval y).cells.toList:=by
      have QH:=nG.length
      have e1:cs.toList=cs.toList.take (i*e.size)++(((cs.toList.drop (i*e.size)).take e.size)++cs.toList.drop (i*e.size+e.size)):=by
       rw[←auV,auq,auq]
      have dZ:(cs.toList.take (i*e.size)).length=i*e.size:=by rw[at4,atO];omega
      conv=>rhs;rw[e1]
      rw[show i*e.size+bD q e=(cs.toList.take (i*e.size)).length+bD q e from by rw[dZ],rY,um (by rw[hch,atO];omega)]
      generalize di ((cs.toList.drop (i*e.size)).take e.size) (bD q e) (a.eval y).cells.toList=m at QH ⊢
      unfold di
      rw[QH,atV]
     have q6:Tr c (bU σ.H ups) w M' ν (bo (bU σ.H ups) id (some (.own e (List.set l i y1)))) (w.setRow b (di cs.toList (i*e.size+bD q e) (a.eval y).cells.toList).toArray) M' ν:=by
      refine Tr.write (e':= .own e (List.set l i y1)) eY.mem lG trivial trivial ⟨rfl,by rw[atX]⟩ (by rw[hb];simp[eA];omega) hg fun HF hk vF=> ?_
      simp only[ER]
      refine .inr ⟨b,_,te,cp,by rw[atX];exact hb,setRow_heap w b cs _ te _ hg,vF,MZ,by rw[atX];exact hl,AB,?_,?_⟩
      ·rw[←Re,auG,et (by rw[nG.length,atO];omega),atO];exact hs
      ·have h9:cs.toList.length=cp*e.size:=by rw[atO,hs]
       have h10:=mR.set (w:=w) (M:=M') (cs:=cs.toList) (l:=l) hr (by rw[h9];exact ur) AP nG
       rw[Re]at h10
       exact fun j hj=>(h10 j hj).bp hk
     refine mS cD ?_
     refine hn _ _ _ _ _ M' ν hK ?_ (by simp[VR])
     rw[ei]
     have:=eY.trans q6
     unfold di at this
     rw[atO]at this
     exact this
   ·cases h
  ·cases h
 ·cases h
theorem Fz.dY{H H1:Nat→Option aR}(h:Fz H H1){i:Nat}{τ:Ty}{x:τ.den}{p:List Step}{j:Nat}(hi:H i=some (.dY τ x p j)):H1 i=some (.dY τ x p j):=by
 rcases h i with h'|⟨e',l',h1,h2⟩
 ·rw[h',hi]
 ·rw[hi]at h1;cases h1
theorem tk{β:Type}{l a:List β}{o:Nat}(hl:o+a.length≤l.length)(i:Nat):(di l o a)[i]? =if o≤i∧i<o+a.length then a[i-o]? else l[i]? :=by
 unfold di
 by_cases h1:i<o
 ·rw[atL (by omega),atV,auR (by simp;omega),auN,atK h1]
 ·by_cases h2:i<o+a.length
  ·rw[atK (by omega),auR (by simp;omega),auI (by simp;omega)]
   simp[auL (show o≤l.length by omega)]
  ·rw[atL (by omega),auI (by simp;omega)]
   simp only[atJ,at4,auL (show o≤l.length by omega),auO]
   congr 1;omega
theorem Es{β:Type}{l a b:List β}{o o':Nat}(h:o'≤o∧o+a.length≤o'+b.length)(h1:o+a.length≤l.length)(h2:o'+b.length≤l.length):di (di l o a) o' b=di l o' b:=by
 have l1:=et (a:=l) (o:=o) (new:=a) h1
 apply awk
 intro i
 rw[tk (by omega),tk (by omega),tk (by omega)]
 by_cases c1:o'≤i∧i<o'+b.length
 ·rw[atK c1,atK c1]
 ·rw[atL c1,atL c1,atL (by omega)]
theorem Bs{β:Type}{l:List β}{o:Nat}{u v:β}(h:o<l.length):di (di l o [u]) o [v]=di l o [v]:=
 Es (by simp) (by simp;omega) (by simp;omega)
theorem Np{β:Type}{l a b:List β}{o o':Nat}(h:o+a.length≤o'∨o'+b.length≤o)(h1:o+a.length≤l.length)(h2:o'+b.length≤l.length):di (di l o a) o' b=di (di l o' b) o a:=by
 have l1:=et (a:=l) (o:=o) (new:=a) h1
 have l2:=et (a:=l) (o:=o') (new:=b) h2
 apply awk
 intro i
 rw[tk (by omega),tk (by omega),tk (by omega),tk (by omega)]
 by_cases c1:o'≤i∧i<o'+b.length
 ·rw[atK c1,atL (by omega),atK c1]
 ·rw[atL c1]
  by_cases c2:o≤i∧i<o+a.length
  ·rw[atK c2,atK c2]
  ·rw[atL c2,atL c2,atL c1]
theorem Et{m:(υ:Ty)→υ.den→(υ.den→Option α)→Option α}: ∀{τ:Ty} {x:τ.den} {n:Nat} {k:τ.den→Option α},jq τ x n m k=some r→ ∃υ y o k',xm τ x n υ y o∧m υ y k'=some r:=fun h=>by
 obtain⟨υ,y,o,k',h1,h2,_⟩:=nZ h
 exact⟨υ,y,o,k',h1,h2⟩
theorem yG{υ:Ty}{u:υ.den}: ∀{p:List Step} {τ:Ty} {x:τ.den} {k:τ.den→Option α},qH υ u p τ x k=some r→ ∃y o,Cw p τ x υ y o
 |[],τ,x,k,h=>by
  obtain⟨e,_⟩:=aY (h:ca υ τ u k=some r)
  subst e
  exact⟨x,0,.nil x⟩
 | .gL n::p,τ,x,k,h=>by
  obtain⟨υ',y,o,k',hf,hm⟩:=Et (h:jq τ x n _ k=some r)
  obtain⟨y',o',hp⟩:=yG (k:=k') hm
  exact⟨y',_,.gL hf hp⟩
 | .idx i::p,τ,x,k,h=>by
  cases τ with
  |arr n e=>
   obtain⟨y',o',hp⟩:=yG (p:=p) (τ:=e) (x:=List.getD x i e.zero) (k:=fun z=>k (List.set x i z)) h
   exact⟨y',_,.idx hp⟩
  |_=>simp[qH,xX]at h
theorem Bt: ∀{p q:List Step} {τ e:Ty},sD p q=true→eC q τ (.slice e)=true→bD p τ≤bD q τ∧bD q τ+1≤bD p τ+(AL p τ).size
 |[],q,τ,e,_,hq=>by
  obtain⟨_,_,sI⟩:=o5 hq τ.zero
  have:=sI.bound (gO hq).1
  have h2:=sI.eq.2
  have:(Ty.slice e).size=1:=rfl
  simp only[bD,AL]
  omega
 | .gL a::p,.gL b::q,τ,e,hp,hq=>by
  simp only[sD,atW]at hp
  have:=auj hp.1
  subst this
  unfold eC at hq
  split at hq
  ·rename_i c hc
   obtain⟨_,_,hf⟩:=o4 hc τ.zero
   have:=hf.eq.1
   subst this
   have:=Bt hp.2 hq
   simp only[bD,AL]
   omega
  ·cases hq
 | .gL _::_,[],_,_,hp,_| .gL _::_,.idx _::_,_,_,hp,_| .idx _::_,_,_,_,hp,_=>by simp[sD]at hp
theorem ER.K2{H:Nat→Option aR}(hm:Mem c H w M ν){k:Nat}{e:Ty}{l:List e.den}(hk:H k=some (.own e l)): ∃ad cp,ν k= .slice ad l.length cp:=by
 have:=hm.iT k _ hk
 simp only[ER]at this
 rcases this with⟨rfl,a,hv⟩|⟨b,cs,t,cap,hv,_⟩
 ·exact⟨a,0,hv⟩
 ·exact⟨_,cap,hv⟩
theorem yH(hE:EnvTy P E)(hc:Core c σ a.tmps w M ν){t:TypeId}{x y:Operand}(ho:o.op= .store t x y){K:fE α}{τ:Ty}(ht:E.ty t=some τ){id k:Nat}{q:List Step}{e:Ty}{υ:Ty}{z:υ.den}
  (hx:σ.ρ x= .fA id q) (hy:σ.ρ y= .ref k) {en:aR} (aT:σ.H id=some en) (hen:en.mut) (Bu:en.ic (.dY υ z q k)) (hq:eC q υ (.slice e)=true)
  (jv: ∃b cs te nW u,ν id= .pointer (some ⟨b,0,none⟩)∧w.heap[b]? =some (.cells cs te (0,0))∧Rd w M υ nW z∧cs.toList=di nW (bD q υ) [u])
  (h:wx τ id k e q υ z σ.H K=some r) (hn:dV c σ a o w M ν K r next):o.wp P a w next Q:=by
 unfold wx at h
 split at h
 ·rename_i e' l hk
  obtain⟨e1,h1⟩:=dJ h
  clear h
  subst e1
  obtain⟨e2,h2⟩:=dJ h1
  clear h1
  subst e2
  obtain⟨z',hK,AQ,AF,sH⟩:=kR h2
  obtain⟨b,cs,te,nW,u,hb,hg,hr,CA⟩:=jv
  have No:=(gO hq).1
  obtain⟨ad,cp,hνk⟩:=ER.K2 hc.mem hk
  have xu:=hc.ev y
  rw[hy]at xu
  simp only[VR]at xu
  have xu:=xu.2
  have AF:=AF No
  have hlen:=hr.length
  have JN:(Ty.slice e').size=1:=rfl
  have dZ:bD q υ<nW.length:=by omega
  have DX:cs.toList.length=nW.length:=by rw[CA];exact et (by simp;omega)
  have hv:=hc.ev x
  rw[hx]at hv
  simp only[VR]at hv
  obtain⟨e3,he3,jO⟩:=hv
  rw[aT]at he3;cases he3
  have jO:=jO.ic Bu
  simp only[AR]at jO
  obtain⟨_,b',dx,hu⟩:=jO
  rw[hb]at dx;cases dx
  have hyc:(a.eval y).cells.toList=[ν k]:=by rw[xu,hνk];rfl
  have pv:(a.eval y).cells.size=(Ty.slice e').size:=by rw[←atO,hyc];rfl
  have cD:=jt (P:=P) ho (hE.ty t _ ht) hu hg pv (by rw[←atO];omega) (by rw[hyc,hνk];simp[Value.oneCell'])
  have nG:(cs.toList.take (bD q υ)++(a.eval y).cells.toList++cs.toList.drop (bD q υ+(a.eval y).cells.toList.length))=di nW (bD q υ) [ν k]:=by
   rw[hyc]
   show di cs.toList (bD q υ) [ν k]=_
   rw[CA,Bs dZ]
  rw[nG]at cD
  have hrz:Rd w M υ (di nW (bD q υ) [.slice none 0 0]) z':=sH w M nW [.slice none 0 0] No hr (Rd.zero w M (.slice e'))
  have eY:Tr c σ.H w M ν (bo σ.H id (some (.dY υ z' q k))) (w.setRow b (di nW (bD q υ) [ν k]).toArray) M ν:=by
   refine Tr.write (e':= .dY υ z' q k) hc.mem aT hen trivial (by cases en<;>simp only[aR.ic]at Bu ⊢ <;>exact Bu) (by rw[hb];rfl) hg (fun HF AT vF=> ?_) (fun τ' x' p' j' hl=> ?_)
   ·simp only[ER]
    refine⟨b,_,te,di nW (bD q υ) [.slice none 0 0],ν k,hb,setRow_heap w b cs _ te _ hg,vF,hrz.bp AT,?_,by rw[hνk];rfl,e',hq⟩
    rw[Bs dZ]
   ·cases hl
    refine⟨by rw[hk];simp,b,hb,?_⟩
    rw[cell_of (setRow_heap w b cs _ te _ hg),←auo]
    show(di nW (bD q υ) [ν k])[bD q υ]? =_
    rw[ya dZ]
  exact mS cD (hn _ _ _ _ _ M ν hK eY (by simp[VR]))
 ·cases h
theorem yI(hE:EnvTy P E)(hc:Core c σ a.tmps w M ν){t:TypeId}{x y:Operand}(ho:o.op= .store t x y){K:fE α}{τ:Ty}(ht:E.ty t=some τ)
  (h:gn E τ (σ.ρ x) (σ.ρ y) σ.H K=some r) (hn:dV c σ a o w M ν K r next):o.wp P a w next Q:=by
 have hold:iH τ (σ.ρ x) (σ.ρ y) σ.H K=some r→o.wp P a w next Q:=fun h=>K1 hE hc ho ht h hn
 unfold gn at h
 simp only at h
 split at h
 ·rename_i id p hx
  have o9:=hx
  split at h
  ·rename_i υ z aT
   split at h
   ·rename_i q e k oK hy
    cases hp:D6 p q
    ·rw[hp]at h;exact hold h
    ·rw[hp]at h
     simp only[atC]at h
     have:=vC hp
     subst this
     have hq:=pa oK
     have jh:=hc.mem.iT id _ aT
     simp only[ER]at jh
     obtain⟨b,cs,te,hb,hg,hM,hr⟩:=jh
     have dZ:bD p υ<cs.toList.length:=by
      obtain⟨_,_,sI⟩:=o5 hq z
      have:=sI.bound (gO hq).1
      have h2:=sI.eq.2
      have:=hr.length
      have:(Ty.slice e).size=1:=rfl
      omega
     refine yH hE hc ho ht hx hy aT trivial rfl hq ⟨b,cs,te,cs.toList,cs.toList[bD p υ],hb,hg,hr,?_⟩ h hn
     exact(Eh (atI dZ)).symm
   ·exact hold h
  ·rename_i υ z q j aT
   obtain⟨b,cs,te,nW,e0,hb,hg,hM,hr,CA,h1,hq,dZ,hj⟩:=hc.mem.linked aT
   have uy:iF true (σ.ρ y) σ.H τ (fun y rd ups=>qH τ y p υ z fun z=>K .any (id::rd) (ups++[(id,some (cond (sD p q) (.obj υ z) (.dY υ z q j)))]))=some r→o.wp P a w next Q:=by
    intro h
    obtain⟨u,rd,ups,M',h,eY,hV,hz,g4⟩:=j2 (.refl _) hc.mem (hc.ev y) h
    have lG:=hz.dY aT
    have hv:=hc.ev x
    rw[hx]at hv
    have Yz:=VR.bp eY.bp eY.goes hv
    simp only[VR]at Yz
    obtain⟨e1,H9,jO⟩:=Yz
    rw[lG]at H9;cases H9
    simp only[AR]at jO
    obtain⟨hi,b1,jS,hu⟩:=jO
    rw[hb]at jS;cases jS
    obtain⟨b2,Yy,te2,cs3,e3,th,Er,CB,DW,Rf,QJ,YA,adH,hj2⟩:=eY.mem.linked lG
    rw[hb]at th;cases th
    rw[hg]at Er;cases Er
    obtain⟨z',hK,AQ,AF,sH⟩:=kR h
    have AF:=AF hi
    have Ra:=DW.length
    have DX:cs.toList.length=cs3.length:=by rw[Rf];exact et (by simp;omega)
    have hcy:=hV.cells.length
    rw[atO]at hcy
    have apM:(a.eval y).cells.toList.length=τ.size:=by rw[atO];exact hcy
    have cD:=jt (P:=P) ho (hE.ty t _ ht) hu hg hcy (by rw[←atO];omega) hV.cells.kG
    have Nq:cs.toList.take (bD p υ)++(a.eval y).cells.toList++cs.toList.drop (bD p υ+(a.eval y).cells.toList.length)=di cs.toList (bD p υ) (a.eval y).cells.toList:=rfl
    rw[Nq]at cD
    have hzr:=sH w M' cs3 _ hi DW hV.cells
    have fin: ∀e',e'.mut→aR.ic (.dY υ z q j) e'→K .any (id::rd) (ups++[(id,some e')])=some r→(∀HF,dh w M' (w.setRow b (di cs.toList (bD p υ) (a.eval y).cells.toList).toArray) HF→HF b→ER (w.setRow b (di cs.toList (bD p υ) (a.eval y).cells.toList).toArray) HF (ν id) e')→
      (∀τ' x' p' j',e'= .dY τ' x' p' j'→(bU σ.H ups) j'≠none∧ ∃b',ν id= .pointer (some ⟨b',0,none⟩)∧(w.setRow b (di cs.toList (bD p υ) (a.eval y).cells.toList).toArray).cell? ⟨b',bD p' τ',none⟩=some (ν j'))→o.wp P a w next Q:=by
     intro e' gP DV hK KW oK
     have q6:=Tr.write (e':=e') eY.mem lG trivial gP DV (by rw[hb];rfl) hg KW oK
     refine mS cD (hn _ _ _ _ _ M' ν hK ?_ (by simp[VR]))
     rw[ei]
     exact eY.trans q6
    cases Ei:sD p q
    ·rw[Ei]at hK
     simp only[atH]at hK
     obtain⟨yy,oo,sI⟩: ∃y o,Cw p υ z τ y o:=yG h
     have hap:=sI.apart hi hq Ei
     have hoo:=sI.eq.2
     subst hoo
     have Xe:di cs.toList (bD p υ) (a.eval y).cells.toList=di (di cs3 (bD p υ) (a.eval y).cells.toList) (bD q υ) [ν j]:=by
      rw[Rf]
      exact Np (by simp only[atG];omega) (by simp only[atG];omega) (by omega)
     have QH:=et (a:=cs3) (o:=bD p υ) (new:=(a.eval y).cells.toList) (by omega)
     refine fin (.dY υ z' q j) trivial rfl hK (fun HF hk vF=> ?_) (fun τ' x' p' j' hl=> ?_)
     ·simp only[ER]
      exact⟨b,_,te,_,ν j,hb,setRow_heap w b cs _ te _ hg,vF,hzr.bp hk,Xe,h1,e0,hq⟩
     ·cases hl
      refine⟨hj2,b,hb,?_⟩
      rw[cell_of (setRow_heap w b cs _ te _ hg),←auo]
      show(di cs.toList (bD p υ) (a.eval y).cells.toList)[bD q υ]? =_
      rw[Xe,ya (by omega)]
    ·rw[Ei]at hK
     simp only[atC]at hK
     refine fin (.obj υ z') trivial rfl hK (fun HF hk vF=> ?_) (fun τ' x' p' j' hl=>by cases hl)
     simp only[ER]
     refine⟨b,_,te,hb,setRow_heap w b cs _ te _ hg,vF,?_⟩
     show Rd _ _ υ (di cs.toList (bD p υ) (a.eval y).cells.toList) z'
     have jN:=Bt Ei hq
     rw[AQ]at jN
     have ho:di cs.toList (bD p υ) (a.eval y).cells.toList=di cs3 (bD p υ) (a.eval y).cells.toList:=by
      rw[Rf]
      exact Es (by simp only[atG];omega) (by simp only[atG];omega) (by omega)
     have h9:=hzr.bp hk
     rw[←ho]at h9
     exact h9
   split at h
   ·rename_i q' e k oK hy
    cases hp:(D6 p q&&D6 q q')
    ·rw[hp]at h;exact uy h
    ·rw[hp]at h
     simp only[atC]at h
     rw[atW]at hp
     have:=vC hp.1
     subst this
     have:=vC hp.2
     subst this
     refine yH hE hc ho ht hx hy aT trivial rfl (pa oK) ⟨b,cs,te,nW,ν j,hb,hg,hr,CA⟩ h hn
   ·exact uy h
  ·exact hold h
 ·exact hold h
theorem K3(hE:EnvTy P E)(hc:Core c σ a.tmps w M ν){t:TypeId}{x y:Operand}(ho:o.op= .store t x y){K:fE α}{τ:Ty}(ht:E.ty t=some τ)
  (h:oF E τ (σ.ρ x) (σ.ρ y) σ.H K=some r) (hn:dV c σ a o w M ν K r next):o.wp P a w next Q:=by
 unfold oF at h
 split at h
 ·rename_i id υ z n hx hy
  split at h
  ·rename_i m e oK
   cases yF:Nat.beq m n
   ·rw[yF]at h
    simp only[atH]at h
    exact yI hE hc ho ht h hn
   ·rw[yF]at h
    simp only[atC]at h
    have yF:=auj yF
    subst yF
    obtain⟨e1,h1⟩:=dJ h
    clear h
    subst e1
    have hq:=pa oK
    have xu:=hc.ev y
    rw[hy]at xu
    simp only[VR]at xu
    obtain⟨hV,cs,ad,hva,hz⟩:=xu
    have hcy:(a.eval y).cells=cs:=by rw[hva];rfl
    obtain⟨en,aT,hen,hK⟩: ∃en:aR,σ.H id=some en∧(∃z0,en= .obj τ z0∨ ∃q j,en= .dY τ z0 q j)∧σ.H (id+2)=none∧K .any [id,id+2] [(id,some (.dY τ z [.gL m] (id+2))),(id+2,some (.own e []))]=some r:=by
     unfold js at h1
     split at h1
     ·rename_i υ z0 aT
      obtain⟨e2,h2⟩:=dJ h1
      clear h1
      subst e2
      obtain⟨h3,h4⟩:=ig h2
      exact⟨_,aT,⟨z0,.inl rfl⟩,h3,h4⟩
     ·rename_i υ z0 q j aT
      obtain⟨e2,h2⟩:=dJ h1
      clear h1
      subst e2
      obtain⟨h3,h4⟩:=ig h2
      exact⟨_,aT,⟨z0,.inr ⟨q,j,rfl⟩⟩,h3,h4⟩
     ·cases h1
     ·cases h1
     ·cases h1
    obtain⟨hk,hK⟩:=hK
    have ajk:en.mut:=by rcases hen with⟨z0,rfl|⟨q,j,rfl⟩⟩<;>trivial
    have Bu:en.ic (.obj τ z):=by rcases hen with⟨z0,rfl|⟨q,j,rfl⟩⟩<;>rfl
    obtain⟨b,nW,te,hb,hg,pv⟩: ∃b nW te,ν id= .pointer (some ⟨b,0,none⟩)∧w.heap[b]? =some (.cells nW te (0,0))∧nW.toList.length=τ.size:=by
     rcases hen with⟨z0,rfl|⟨q,j,rfl⟩⟩
     ·have:=hc.mem.iT id _ aT
      simp only[ER]at this
      obtain⟨b,nW,te,h2,h3,_,h5⟩:=this
      exact⟨b,nW,te,h2,h3,h5.length⟩
     ·obtain⟨b,nW,te,ua,_,h2,h3,_,h5,h6,_,_,h7,_⟩:=hc.mem.linked aT
      refine⟨b,nW,te,h2,h3,?_⟩
      rw[h6,et (by simp only[atG];omega),h5.length]
    have hv:=hc.ev x
    rw[hx]at hv
    simp only[VR]at hv
    obtain⟨e3,he3,jO⟩:=hv
    rw[aT]at he3;cases he3
    have jO:=jO.ic Bu
    simp only[AR]at jO
    obtain⟨_,b',dx,hu⟩:=jO
    rw[hb]at dx;cases dx
    have DX:=hV.cells.length
    have cD:=jt (P:=P) ho (hE.ty t _ ht) hu hg (by rw[←atO];exact DX) (by rw[←atO,pv];simp[bD]) hV.cells.kG
    have Nq:nW.toList.take (bD [] τ)++(a.eval y).cells.toList++nW.toList.drop (bD [] τ+(a.eval y).cells.toList.length)=(a.eval y).cells.toList:=by
     simp only[bD,auT,aug,auP]
     rw[auw (by omega),auh]
    rw[Nq]at cD
    have sH:=setRow_heap w b nW (a.eval y).cells.toList.toArray te _ hg
    have eY:=Tr.write (e':= .obj τ z) (new:=(a.eval y).cells.toList.toArray) hc.mem aT ajk trivial Bu (by rw[hb];rfl) hg (fun HF AT vF=>by
     simp only[ER]
     exact⟨b,_,te,hb,sH,vF,hV.cells.bp AT⟩)
    have ib:id+2≠id:=by omega
    have q6:=Tr.Nm eY.mem (id:=id) (k:=id+2) (by rw[al _ _ ib];exact hk) (ak _ _ _) hb sH hq (ad:=ad) (by rw[hcy];simpa [bD]using hz)
    have e1:bU (bo σ.H id (some (.obj τ z))) [(id,some (.dY τ z [.gL m] (id+2))),(id+2,some (.own e []))]=bU σ.H [(id,some (.dY τ z [.gL m] (id+2))),(id+2,some (.own e []))]:=by
     show bo (bo (bo σ.H id _) id _) (id+2) _=bo (bo σ.H id _) (id+2) _
     rw[ti]
    rw[e1]at q6
    exact mS cD (hn _ _ _ _ _ _ _ hK (eY.trans q6) (by simp[VR]))
  ·exact yI hE hc ho ht h hn
 ·exact yI hE hc ho ht h hn
end VM
end
section
namespace VM
open Go
variable{P:Program}{E:Env}{o:Oper}{a:Act}{w:World}{M:Nat→Prop}{ν:Nat→Value}{σ:St}{c:Ctx}{α:Type}{r:α}{next:Act→World→Prop}{Q:Exit→Act→World→Prop}
theorem nb{n:Nat}(h:Nat.beq n 0=false):n≠0:=by rw[←avi,awQ]at h;exact h
theorem At.sub{b off:Nat}{cs:List Value}(h:At w b off cs)(o n:Nat):At w b (off+o) ((cs.drop o).take n):=by
 intro j v hj
 rw[auN]at hj
 split at hj
 ·rw[auO]at hj
  have:=h _ v hj
  rwa [←avA]at this
 ·cases hj
def q7:aR→List Step→Option Ty
 | .obj τ _,p=>some (AL p τ)
 | .dY τ _ _ _,p=>some (AL p τ)
 | .own e _,.idx _::p| .kF e _,.idx _::p=>some (AL p e)
 |_,_=>none
theorem yJ{id:Nat}{p:List Step}{H:Nat→Option aR}{k:Ty→Option α}(h:js id p H k=some r): ∃e υ,H id=some e∧q7 e p=some υ∧k υ=some r:=by
 unfold js at h
 split at h
 ·rename_i τ x aT
  obtain⟨υ,y,o,hp,hk⟩:=gr h
  exact⟨_,υ,aT,by simp[q7,hp.eq.1],hk⟩
 ·rename_i τ x _ _ aT
  obtain⟨υ,y,o,hp,hk⟩:=gr h
  exact⟨_,υ,aT,by simp[q7,hp.eq.1],hk⟩
 ·rename_i e l aT
  split at h
  ·obtain⟨υ,y,o,hp,hk⟩:=gr h
   exact⟨_,υ,aT,by simp[q7,hp.eq.1],hk⟩
  ·cases h
 ·rename_i e l aT
  split at h
  ·obtain⟨υ,y,o,hp,hk⟩:=gr h
   exact⟨_,υ,aT,by simp[q7,hp.eq.1],hk⟩
  ·cases h
 ·cases h
theorem AR.step{v:Value}{p:List Step}{u:Value}{e:aR}{υ:Ty}(h:AR v p u e)(ht:q7 e p=some υ)(s:Step)(hs:sG [s] υ):
  ∃b off,u= .pointer (some ⟨b,off,none⟩)∧AR v (p++[s]) (.pointer (some ⟨b,off+bD [s] υ,none⟩)) e:=by
 cases e with
 |obj τ x=>
  simp only[q7,auF]at ht
  simp only[AR]at h ⊢
  obtain⟨hi,b,hb,rfl⟩:=h
  subst ht
  exact⟨b,_,rfl,(nV p [s] τ).2 ⟨hi,hs⟩,b,hb,by rw[nU]⟩
 |dY τ x _ _=>
  simp only[q7,auF]at ht
  simp only[AR]at h ⊢
  obtain⟨hi,b,hb,rfl⟩:=h
  subst ht
  exact⟨b,_,rfl,(nV p [s] τ).2 ⟨hi,hs⟩,b,hb,by rw[nU]⟩
 |own e l=>
  simp only[AR]at h ⊢
  obtain⟨i,q,rfl,AP,hi,b,n,cp,hb,rfl⟩:=h
  simp only[q7,auF]at ht
  subst ht
  exact⟨b,_,rfl,i,q++[s],rfl,AP,(nV q [s] e).2 ⟨hi,hs⟩,b,n,cp,hb,by rw[nU,avA]⟩
 |kF e l=>
  simp only[AR]at h ⊢
  obtain⟨i,q,rfl,AP,hi,b,n,cp,hb,rfl⟩:=h
  simp only[q7,auF]at ht
  subst ht
  exact⟨b,_,rfl,i,q++[s],rfl,AP,(nV q [s] e).2 ⟨hi,hs⟩,b,n,cp,hb,by rw[nU,avA]⟩
 |gone=>simp[q7]at ht
theorem vG(hE:EnvTy P E)(hc:Core c σ a.tmps w M ν){t:TypeId}{x:Operand}{n:Nat}(ho:o.op= .fieldAddr t x n){K:fE α}{τ:Ty}(ht:E.ty t=some τ){id:Nat}{p:List Step}(hx:σ.ρ x= .fA id p)
  (h:js id p σ.H (fun υ=>jr υ τ (sE τ τ.zero n fun υ' _=>cond (Nat.beq υ'.size 0) none (K (.fA id (p++[.gL n])) [id] [])))=some r) (hn:dV c σ a o w M ν K r next):o.wp P a w next Q:=by
 obtain⟨e,υ,aT,het,h⟩:=yJ h
 obtain⟨YB,h_⟩:=dJ h
 clear h
 subst YB
 have h:=h_
 clear h_
 obtain⟨υ',y,of,hf,h⟩:=o3 h
 obtain⟨hz,h⟩:=iU h
 have hv:=hc.ev x
 rw[hx]at hv
 simp only[VR]at hv
 obtain⟨e',sV,jO⟩:=hv
 rw[aT]at sV;cases sV
 obtain⟨b,off,hu,YC⟩:=jO.step het (.gL n) trivial
 obtain⟨fs,f,HG,hff,hfo,Nr⟩:=(hE.ty t υ ht).gL hf
 obtain⟨v,cD,hvv⟩:=o8 (P:=P) ho (w:=w) HG hff Nr (nb hz) hu
 refine aO cD (hn _ _ _ _ _ M ν h (.refl hc.mem) ?_)
 simp only[VR]
 refine⟨e,aT,?_⟩
 rw[hvv,hfo,hf.eq.2]
 simpa [bD]using YC
theorem uz(hE:EnvTy P E)(hc:Core c σ a.tmps w M ν){t:TypeId}{x:Operand}{n:Nat}(ho:o.op= .fieldAddr t x n){K:fE α}{τ:Ty}(ht:E.ty t=some τ){υ:Ty}{z:υ.den}(hx:σ.ρ x= .mL υ z)
  (h:jr υ τ (sE υ z n fun υ y=>cond (Nat.beq υ.size 0) none (K (.mL υ y) [] []))=some r) (hn:dV c σ a o w M ν K r next):o.wp P a w next Q:=by
 obtain⟨he,h1⟩:=dJ h
 subst he
 obtain⟨υ',y,of,hf,h⟩:=o3 h1
 obtain⟨hz,h⟩:=iU h
 have hv:=hc.ev x
 rw[hx]at hv
 simp only[VR]at hv
 obtain⟨b,off,hu,hb,hM,cs,ma,hr⟩:=hv
 obtain⟨fs,f,HG,hff,hfo,Nr⟩:=(hE.ty t υ ht).gL hf
 obtain⟨v,cD,hvv⟩:=o8 (P:=P) ho (w:=w) HG hff Nr (nb hz) hu
 refine aO cD (hn _ _ _ _ _ M ν h (.refl hc.mem) ?_)
 simp only[VR]
 exact⟨b,off+f.offset,hvv,hb,hM,_,by rw[hfo];exact ma.sub of υ'.size,hf.rd hr⟩
theorem V.agg{τ:Ty}(ha:τ.isAgg=true){v:Value}{x:τ.den}(h:V w M τ v x): ∃cs,v= .agg cs∧Rd w M τ cs.toList x:=by
 unfold V at h;rw[atK ha]at h;exact h
theorem xm.agg{τ:Ty}{x:τ.den}{n:Nat}{υ:Ty}{y:υ.den}{o:Nat}(h:xm τ x n υ y o):τ.isAgg=true:=by cases h<;>rfl
theorem Ns(hE:EnvTy P E)(hc:Core c σ a.tmps w M ν){t:TypeId}{x:Operand}{n:Nat}(ho:o.op= .field t x n){K:fE α}{τ:Ty}(ht:E.ty t=some τ){υ:Ty}{z:υ.den}(hx:σ.ρ x= .val υ z)
  (h:jr υ τ (sE υ z n fun υ y=>K (.val υ y) [] [])=some r) (hn:dV c σ a o w M ν K r next):o.wp P a w next Q:=by
 obtain⟨he,h1⟩:=dJ h
 subst he
 obtain⟨υ',y,of,hf,h⟩:=o3 h1
 have hv:=hc.ev x
 rw[hx]at hv
 simp only[VR]at hv
 obtain⟨cs,hu,hr⟩:=hv.agg hf.agg
 obtain⟨fs,f,HG,hff,hfo,Nr⟩:=(hE.ty t υ ht).gL hf
 have dU:=hf.rd hr
 refine aO (Cz ho HG hff Nr hu (by rw[hfo];exact dU)) (hn _ _ _ _ _ M ν h (.refl hc.mem) ?_)
 simp only[VR]
 rw[hfo]
 exact V.bK dU
theorem CC(hE:EnvTy P E)(hc:Core c σ a.tmps w M ν){t:TypeId}{x i:Operand}(ho:o.op= .indexAddr t x i){K:fE α}{τ:Ty}(ht:E.ty t=some τ)
  (h:ep τ (σ.ρ x) (σ.ρ i) σ.H K=some r) (hn:dV c σ a o w M ν K r next):o.wp P a w next Q:=by
 unfold ep at h
 obtain⟨k,n,hi,h2⟩:=ju h
 clear h
 have h:=h2
 clear h2
 have JO:=hc.ev i
 rw[hi]at JO
 have JO:=JO.int
 have hv:=hc.ev x
 have ux:=hE.ty t τ ht
 split at h
 ·
  rename_i e
  obtain⟨e',HG,hle⟩:=ux.slice
  split at h
  ·rename_i υ l hx
   obtain⟨e1,h⟩:=aY h
   subst e1
   obtain⟨jN,h⟩:=bB h
   obtain⟨h0,h1⟩:=pD jN
   have h1:n<(List.length l:Int):=h1
   rw[hx]at hv
   simp only[VR]at hv
   have hv:=V.slice.1 hv
   simp only[Rd,auv,au3]at hv
   obtain⟨ad,cap,hu,adK,hr⟩:=hv
   obtain⟨b,off,rfl,hb,hM,cs,ma,g4⟩:=hr n.toNat (by omega)
   refine aO (g7 ho HG hle hu JO h0 h1) (hn _ _ _ _ _ M ν h (.refl hc.mem) ?_)
   simp only[VR]
   refine⟨b,_,rfl,hb,hM,cs,ma,?_⟩
   have:Rd w M e cs (List.getD l n.toNat e.zero):=by rw[gN l n.toNat e.zero (by omega)];exact g4
   exact this
  ·rename_i id hx
   rw[hx]at hv
   simp only[VR]at hv
   obtain⟨_,hu⟩:=hv
   split at h
   ·rename_i e2 l aT
    obtain⟨YB,h_⟩:=dJ h
    clear h
    subst YB
    have h:=h_
    clear h_
    obtain⟨jN,h⟩:=bB h
    obtain⟨h0,h1⟩:=pD jN
    have jh:=hc.mem.iT id _ aT
    simp only[ER]at jh
    rcases jh with⟨rfl,_⟩|⟨b,cs,te,cap,hb,hg,hM,MZ,hl,AB,hs,hr⟩
    ·simp at h1;omega
    ·rw[hb]at hu
     refine aO (g7 ho HG hle hu JO h0 h1) (hn _ _ _ _ _ M ν h (.refl hc.mem) ?_)
     simp only[VR]
     refine⟨_,aT,?_⟩
     simp only[AR]
     exact⟨n.toNat,[],rfl,by omega,trivial,b,_,_,hb,by simp[bD]⟩
   ·rename_i e2 l aT
    obtain⟨YB,h_⟩:=dJ h
    clear h
    subst YB
    have h:=h_
    clear h_
    obtain⟨jN,h⟩:=bB h
    obtain⟨h0,h1⟩:=pD jN
    have jh:=hc.mem.iT id _ aT
    simp only[ER]at jh
    obtain⟨g4,hhd⟩:=jh
    simp only[Rd,auv,au3]at g4
    obtain⟨ad,cap,hb,adK,hr⟩:=g4
    rcases hhd with⟨rfl,_⟩|⟨b,n2,c2,th⟩
    ·simp at h1;omega
    ·rw[hb]at th;cases th
     rw[hb]at hu
     refine aO (g7 ho HG hle hu JO h0 h1) (hn _ _ _ _ _ M ν h (.refl hc.mem) ?_)
     simp only[VR]
     refine⟨_,aT,?_⟩
     simp only[AR]
     exact⟨n.toNat,[],rfl,by omega,trivial,b,_,_,hb,by simp[bD]⟩
   ·cases h
  ·cases h
 ·
  rename_i len e
  obtain⟨e',HG,hle⟩:=ux.arr
  split at h
  ·rename_i id p hx
   obtain⟨en,υ,aT,het,h⟩:=yJ h
   obtain⟨YB,h_⟩:=dJ h
   clear h
   subst YB
   have h:=h_
   clear h_
   obtain⟨jN,h⟩:=bB h
   obtain⟨h0,h1⟩:=pD jN
   rw[hx]at hv
   simp only[VR]at hv
   obtain⟨en',sV,jO⟩:=hv
   rw[aT]at sV;cases sV
   obtain⟨b,off,hu,YC⟩:=jO.step het (.idx n.toNat) ⟨⟨len,e,rfl,by omega⟩,trivial⟩
   refine aO (nY ho HG hle hu JO h0 h1) (hn _ _ _ _ _ M ν h (.refl hc.mem) ?_)
   simp only[VR]
   refine⟨en,aT,?_⟩
   simpa [bD,Yp]using YC
  ·rename_i υ l hx
   obtain⟨e1,h⟩:=aY h
   subst e1
   obtain⟨jN,h⟩:=bB h
   obtain⟨h0,h1⟩:=pD jN
   rw[hx]at hv
   simp only[VR]at hv
   obtain⟨b,off,hu,hb,hM,cs,ma,hr⟩:=hv
   refine aO (nY ho HG hle hu JO h0 h1) (hn _ _ _ _ _ M ν h (.refl hc.mem) ?_)
   simp only[VR]
   exact⟨b,_,rfl,hb,hM,_,ma.sub _ e.size,hr.idx (by omega)⟩
  ·cases h
 ·cases h
theorem xv(hc:Core c σ a.tmps w M ν){x:Operand}(ho:o.op= .nilCheck x){K:fE α}{id:Nat}{p:List Step}(hx:σ.ρ x= .fA id p)
  (h:K (.fA id p) [] []=some r) (hn:dV c σ a o w M ν K r next):o.wp P a w next Q:=by
 have hv:=hc.ev x
 have Nt:=hv
 rw[hx]at hv
 simp only[VR]at hv
 obtain⟨e,he,jO⟩:=hv
 obtain⟨ad,hu⟩:=jO.ptr
 refine aO (qw ho hu) (hn _ _ _ _ _ M ν h (.refl hc.mem) ?_)
 rw[←hu,←hx];exact Nt
theorem vH(hc:Core c σ a.tmps w M ν){x:Operand}(ho:o.op= .nilCheck x){K:fE α}{τ:Ty}{z:τ.den}(hx:σ.ρ x= .mL τ z)
  (h:K (.mL τ z) [] []=some r) (hn:dV c σ a o w M ν K r next):o.wp P a w next Q:=by
 have hv:=hc.ev x
 have Nt:=hv
 rw[hx]at hv
 simp only[VR]at hv
 obtain⟨b,off,hu,_⟩:=hv
 refine aO (qw ho hu) (hn _ _ _ _ _ M ν h (.refl hc.mem) ?_)
 rw[←hu,←hx];exact Nt
theorem fN.get{H:Nat→Option aR}: ∀{lY:List aW} {vs:List Value},fN w M H ν lY vs→ ∀{i:Nat} {x:aW},lY[i]? =some x→ ∃v,vs[i]? =some v∧VR w M H ν x v
 |[],_,_,i,x,hx=>by simp at hx
 |y::lY,[],h,_,_,_=>by simp[fN]at h
 |y::lY,v::vs,h,0,x,hx=>by
  simp only[fN]at h
  simp at hx;subst hx
  exact⟨v,rfl,h.1⟩
 |y::lY,v::vs,h,i+1,x,hx=>by
  simp only[fN]at h
  exact fN.get h.2 (by simpa using hx)
theorem Ia(hc:Core c σ a.tmps w M ν){x:Operand}{i:Nat}(ho:o.op= .extract x i){K:fE α}{vs:List aW}{v:aW}(hx:σ.ρ x= .tup vs)(hi:vs[i]? =some v)
  (h:K v [] []=some r) (hn:dV c σ a o w M ν K r next):o.wp P a w next Q:=by
 have hv:=hc.ev x
 rw[hx]at hv
 simp only[VR]at hv
 obtain⟨us,hu,Rg⟩:=hv
 obtain⟨u,hui,hvu⟩:=Rg.get hi
 exact aO (yC ho hu hui) (hn _ _ _ _ _ M ν h (.refl hc.mem) hvu)
theorem Core.evs(hc:Core c σ a.tmps w M ν): ∀xs:List Operand,fN w M σ.H ν (xs.map σ.ρ) (xs.map a.eval)
 |[]=>by simp[fN]
 |x::xs=>by simp only[at7,fN];exact⟨hc.ev x,hc.evs xs⟩
theorem ra: ∀{lY:List aW} {vs:List Value} {H:Nat→Option aR} {M:Nat→Prop} {K:List aW→List Nat→fD→Option α},Mem c H w M ν→fN w M H ν lY vs→qX H lY K=some r→
  ∃cs rd ups M',K cs rd ups=some r∧Tr c H w M ν (bU H ups) w M' ν∧fN w M' (bU H ups) ν cs vs
 |[],vs,H,M,K,hm,hv,h=>⟨[],[],[],M,h,.refl hm,hv⟩
 |x::xs,[],H,M,K,hm,hv,h=>by simp[fN]at hv
 |x::xs,v::vs,H,M,K,hm,hv,h=>by
  simp only[fN]at hv
  unfold qX at h
  split at h
  ·rename_i id
   split at h
   ·rename_i τ z aT
    obtain⟨M1,b,ht,hb,dZ,hM,nW,ma,g4⟩:=Tr.fix hm aT
    obtain⟨cs,rd,ups,M2,hK,QK,Rh⟩:=ra ht.mem (fN.bp ht.bp ht.goes hv.2) h
    refine⟨_,_,_,M2,hK,ht.trans QK,?_⟩
    have h1:VR w M1 (bo H id (some .gone)) ν (.mL τ z) v:=by
     have Ib:=hv.1
     simp only[VR]at Ib ⊢
     obtain⟨e,he,jO⟩:=Ib
     rw[aT]at he;cases he
     simp only[AR]at jO
     obtain⟨_,b',dx,Ib⟩:=jO
     rw[hb]at dx;cases dx
     exact⟨b,0,Ib,dZ,hM,nW,ma,g4⟩
    simp only[fN]
    exact⟨VR.bp QK.bp QK.goes h1,Rh⟩
   ·cases h
  ·obtain⟨cs,rd,ups,M2,hK,QK,Rh⟩:=ra hm hv.2 h
   refine⟨_,_,_,M2,hK,QK,?_⟩
   simp only[fN]
   exact⟨VR.bp QK.bp QK.goes hv.1,Rh⟩
theorem Eu(hc:Core c σ a.tmps w M ν){f:FuncId}{first caps:Array Operand}(ho:o.op= .makeFunc (.func f) first caps){K:fE α}
  (h:cond first.isEmpty (qX σ.H (caps.toList.map σ.ρ) fun cs rd ups=>K (.D7 f cs) rd ups) none=some r) (hn:dV c σ a o w M ν K r next):o.wp P a w next Q:=by
 obtain⟨hf,h⟩:=bB h
 obtain⟨cs,rd,ups,M',hK,ht,hv⟩:=ra hc.mem (hc.evs _) h
 refine aO (xq ho (by simpa using hf)) (hn _ _ _ _ _ M' ν hK ht ?_)
 simp only[VR]
 exact⟨caps.toList.map a.eval,by congr 1;apply avx;simp,hv⟩
theorem Ic(hE:EnvTy P E)(hc:Core c σ a.tmps w M ν){s d:TypeId}{x:Operand}(ho:o.op= .convert s d x){K:fE α}{τ:Ty}{k:IntKind}(hs:E.ty s=some τ)(hd:E.ty d=some (.int k))
  (h:qU (σ.ρ x) (fun _ n=>K (.val (.int k) (W k n)) [] [])=some r) (hn:dV c σ a o w M ν K r next):o.wp P a w next Q:=by
 obtain⟨k',n,hx,h⟩:=ju h
 have hv:=hc.ev x
 rw[hx]at hv
 refine aO (yD ho (hE.ty s τ hs).isSome (hE.ty d _ hd).int hv.int) (hn _ _ _ _ _ M ν h (.refl hc.mem) ?_)
 rw[yu];exact .mkInt k _
end VM
end
section
namespace VM
open Go
variable{P:Program}{E:Env}{o:Oper}{a:Act}{w:World}{M:Nat→Prop}{ν:Nat→Value}{σ:St}{c:Ctx}{α:Type}{r:α}{next:Act→World→Prop}{Q:Exit→Act→World→Prop}
theorem K4{b:BinOp}{k k':IntKind}{x y:Int}{t:TypeId}{K:aW→Option α}(h:Q5 b k x y K=some r):
  ∃z,K (.val (.int k) z)=some r∧(binOp b t (.int k x) (.int k' y)).run P w= .ok (.int k z) w:=by
 unfold Q5 at h
 split at h
 ·obtain⟨h0,h⟩:=iU h
  rw[td]at h0
  have h0: ¬y<0:=by simpa using h0
  refine⟨_,h,?_⟩
  rw[yu,Nh]
  simp[binOp,Op.shift,h0]
 ·obtain⟨h0,h⟩:=iU h
  rw[td]at h0
  have h0: ¬y<0:=by simpa using h0
  refine⟨_,h,?_⟩
  rw[H5]
  simp[binOp,Op.shift,h0]
 ·cases h
theorem CD{b:BinOp}{k:IntKind}{x y:Int}{t:TypeId}{K:aW→Option α}(h:pz b k x y K=some r):
  ∃v u,K v=some r∧(binOp b t (.int k x) (.int k y)).run P w= .ok u w∧ ∀H,VR w M H ν v u:=by
 unfold pz at h
 split at h
 ·exact⟨_,_,h,by simp[binOp,Op.intArith,yu],fun H=> .mkInt _ _⟩
 ·exact⟨_,_,h,by simp[binOp,Op.intArith,yu],fun H=> .mkInt _ _⟩
 ·exact⟨_,_,h,by simp[binOp,Op.intArith,yu],fun H=> .mkInt _ _⟩
 ·obtain⟨h0,h⟩:=iU h
  rw[fh]at h0
  have h0: ¬y=0:=by simpa using h0
  exact⟨_,_,h,by simp[binOp,Op.intDiv,yu,Yl,h0],fun H=> .mkInt _ _⟩
 ·obtain⟨h0,h⟩:=iU h
  rw[fh]at h0
  have h0: ¬y=0:=by simpa using h0
  exact⟨_,_,h,by simp[binOp,Op.intDiv,Ym,h0],fun H=> .mkInt _ _⟩
 ·exact⟨_,_,h,by simp[binOp,Op.intBits,py],fun H=> .mkInt _ _⟩
 ·exact⟨_,_,h,by simp[binOp,Op.intBits,py],fun H=> .mkInt _ _⟩
 ·exact⟨_,_,h,by simp[binOp,Op.intBits,py],fun H=> .mkInt _ _⟩
 ·exact⟨_,_,h,by simp[binOp,Op.intBits,py],fun H=> .mkInt _ _⟩
 ·exact⟨_,.bool (decide (x=y)),h,by simp[binOp,Op.intCmp];rfl,fun H=>by rw[fh];exact .pC _⟩
 ·exact⟨_,.bool (!decide (x=y)),h,by simp[binOp,Op.intCmp];rfl,fun H=>by rw[fh];exact .pC _⟩
 ·exact⟨_,_,h,by simp[binOp,Op.intCmp,td],fun H=> .pC _⟩
 ·exact⟨_,_,h,by simp[binOp,Op.intCmp,iE],fun H=> .pC _⟩
 ·exact⟨_,_,h,by simp[binOp,Op.intCmp,td],fun H=> .pC _⟩
 ·exact⟨_,_,h,by simp[binOp,Op.intCmp,iE],fun H=> .pC _⟩
 ·cases h
theorem K5{t:Option Ty}{op:BinOp}{τ:Ty}{x:τ.den}{υ:Ty}{y:υ.den}{K:aW→Option α}(h:yx t op τ x υ y K=some r):
  (∃(k k':IntKind) (m n:Int),aW.val τ x= .val (.int k) m∧aW.val υ y= .val (.int k') n∧(cond (Q6 op) (Q5 op k m n K) (if k=k' then pz op k m n K else none))=some r)∨
  (∃z:τ.den,aW.val υ y= .val τ z∧t=some τ∧τ.comparable=true∧((op= .eql∧K (.val .bool (qQ τ x z))=some r)∨(op= .neq∧K (.val .bool (!qQ τ x z))=some r))):=by
 unfold yx at h
 split at h
 ·exact .inl ⟨_,_,_,_,rfl,rfl,h⟩
 ·right
  split at h
  ·cases h
  ·obtain⟨e,h1⟩:=dJ h
   clear h
   subst e
   obtain⟨hc,h⟩:=bB h1
   clear h1
   split at h
   ·obtain⟨e,h1⟩:=aY h
    subst e
    exact⟨_,rfl,rfl,hc,.inl ⟨rfl,h1⟩⟩
   ·obtain⟨e,h1⟩:=aY h
    subst e
    exact⟨_,rfl,rfl,hc,.inr ⟨rfl,h1⟩⟩
   ·cases h
theorem wD{t:TypeId}(hu:P.underlying t=some .bool)(x y:Bool)(w:World):(Op.equal t (.bool x) (.bool y)).run P w= .ok (x==y) w:=by
 unfold Op.equal
 obtain⟨n,hn⟩: ∃n,Op.maxDepth=n+1:=⟨9999,rfl⟩
 rw[hn]
 simp[Op.equalIn,run_underlying hu]
theorem run_eql_bool{t:TypeId}(hu:P.underlying t=some .bool)(x y:Bool):(binOp .eql t (.bool x) (.bool y)).run P w= .ok (.bool (x==y)) w:=by
 simp[binOp,wD hu]
theorem run_neq_bool{t:TypeId}(hu:P.underlying t=some .bool)(x y:Bool):(binOp .neq t (.bool x) (.bool y)).run P w= .ok (.bool (!(x==y))) w:=by
 simp[binOp,wD hu]
theorem adM(x y:ByteArray):(x.toList==y.toList)=decide (x.toList=y.toList):=by
 rw[ave];simp
theorem Ev{t:TypeId}(x y:ByteArray):(binOp .eql t (.string x) (.string y)).run P w= .ok (.bool (decide (x.toList=y.toList))) w:=by
 simp[binOp,Op.stringOp,adM]
theorem Ew{t:TypeId}(x y:ByteArray):(binOp .neq t (.string x) (.string y)).run P w= .ok (.bool (!decide (x.toList=y.toList))) w:=by
 simp[binOp,Op.stringOp,adM]
theorem Nu(hE:EnvTy P E)(hc:Core c σ a.tmps w M ν){b:BinOp}{t t':TypeId}{x y:Operand}(ho:o.op= .binOp b t x y t'){K:fE α}
  (h:D9 (σ.ρ x) (fun τ x=>D9 (σ.ρ y) fun υ y=>yx (E.ty t) b τ x υ y fun v=>K v [] [])=some r) (hn:dV c σ a o w M ν K r next):o.wp P a w next Q:=by
 have hx:=hc.ev x
 have hy:=hc.ev y
 unfold D9 at h
 split at h
 ·rename_i τ x' YD
  split at h
  ·rename_i υ y' hye
   rw[YD]at hx;rw[hye]at hy
   rcases K5 h with⟨k,k',m,n,e1,e2,h1⟩|⟨z,e2,ht,K6,h1⟩
   ·rw[e1]at hx;rw[e2]at hy
    have hx:=hx.int
    have hy:=hy.int
    cases hs:Q6 b
    ·rw[hs]at h1
     replace h1:(if k=k' then pz b k m n (fun v=>K v [] [])else none)=some r:=h1
     split at h1
     ·rename_i hk;subst hk
      obtain⟨v,u,hK,cD,hVR⟩:=CD (P:=P) (w:=w) (M:=M) (ν:=ν) (t:=t) h1
      exact aO (mc ho (by rw[hx,hy];exact lH w) (by rw[hx,hy];exact cD)) (hn _ [] [] _ _ _ _ hK (.refl hc.mem) (hVR _))
     ·cases h1
    ·rw[hs]at h1
     replace h1:Q5 b k m n (fun v=>K v [] [])=some r:=h1
     obtain⟨z,hK,cD⟩:=K4 (P:=P) (w:=w) (k':=k') (t:=t) h1
     exact aO (mc ho (by rw[hx,hy];exact lH w) (by rw[hx,hy];exact cD)) (hn _ [] [] _ _ _ _ hK (.refl hc.mem) (.mkInt _ _))
   ·rw[e2]at hy
    have key:(eqGuard b t x y (a.eval x) (a.eval y)).run P w= .ok () w∧(binOp .eql t (a.eval x) (a.eval y)).run P w= .ok (.bool (qQ τ x' z)) w∧(binOp .neq t (a.eval x) (a.eval y)).run P w= .ok (.bool (!qQ τ x' z)) w:=by
     by_cases El:τ.isAgg=true
     ·simp only[VR]at hx hy
      exact hE.eq t τ ht K6 El w M _ _ _ _ b x y hx hy
     ·have hl:=hE.ty t τ ht
      cases τ with
      |int k=>
       rw[hx.int,hy.int]
       refine⟨lH w,?_,?_⟩
       ·simp[binOp,Op.intCmp,qQ,fh];rfl
       ·simp[binOp,Op.intCmp,qQ,fh];rfl
      |bool=>rw[hx.bool,hy.bool];exact⟨vE w,run_eql_bool hl.bool _ _,run_neq_bool hl.bool _ _⟩
      |str=>rw[hx.str,hy.str];exact⟨xr w,by rw[Ev];simp[qQ,yw],by rw[Ew];simp[qQ,yw]⟩
      |slice e=>simp[Ty.comparable]at K6
      |unit=>simp[Ty.isAgg]at El
      |pair _ _=>simp[Ty.isAgg]at El
      |arr _ _=>simp[Ty.isAgg]at El
    obtain⟨hg,h2,h3⟩:=key
    rcases h1 with⟨rfl,hK⟩|⟨rfl,hK⟩
    ·exact aO (mc ho hg h2) (hn _ [] [] _ _ _ _ hK (.refl hc.mem) (.pC _))
    ·exact aO (mc ho hg h3) (hn _ [] [] _ _ _ _ hK (.refl hc.mem) (.pC _))
  ·cases h
 ·cases h
theorem Ri(hc:Core c σ a.tmps w M ν){u:UnOp}{t:TypeId}{x:Operand}(ho:o.op= .unOp u t x){K:fE α}
  (h:KT u (σ.ρ x) (fun v=>K v [] [])=some r) (hn:dV c σ a o w M ν K r next):o.wp P a w next Q:=by
 have hx:=hc.ev x
 unfold KT at h
 split at h
 ·rename_i k n YD
  rw[YD]at hx
  refine aO (q5 ho (v:= .int k (k.wrap (0-n))) ?_) (hn _ [] [] _ _ _ _ h (.refl hc.mem) (by rw[yu];exact .mkInt _ _))
  rw[hx.int];simp[Op.unary,Op.intArith]
 ·rename_i k n YD
  rw[YD]at hx
  refine aO (q5 ho (v:= .int k (oY .xor k (if k.signed then-1 else k.max) n)) ?_) (hn _ [] [] _ _ _ _ h (.refl hc.mem) (.mkInt _ _))
  rw[hx.int,py];simp[Op.unary,Op.intBits]
 ·rename_i b YD
  rw[YD]at hx
  refine aO (q5 ho (v:= .bool (!b)) ?_) (hn _ [] [] _ _ _ _ h (.refl hc.mem) (.pC _))
  rw[hx.bool];simp[Op.unary]
 ·cases h
end VM
end
section
namespace VM
open Go
variable{P:Program}{E:Env}{o:Oper}{a:Act}{w:World}{M:Nat→Prop}{ν:Nat→Value}{σ:St}{c:Ctx}{α:Type}{r:α}{next:Act→World→Prop}{Q:Exit→Act→World→Prop}
theorem ka{args:Array Operand}{ts:Array TypeId}{t:TypeId}{x:Operand}{n:Nat}(ho:o.op= .call {callee:= .builtin .len,args,argTypes:=ts})(ha:args.toList=[x])(_ht:ts.toList.head?=some t)
  (hl: ∀ty,(Builtin.len_ ts ty #[a.eval x]).run P w= .ok (goInt n) w):(execOp a.eval o).run P w= .ok (.value (.int .i64 n)) w:=by
 obtain⟨cs,hr⟩:=mQ (P:=P) (ρ:=a.eval) ho (w:=w)
 rw[hr]
 have:args.map a.eval= #[a.eval x]:=by apply avx;simp[ha]
 rw[this]
 simp[builtin,hl,goInt]
theorem Rj{ts:Array TypeId}{t ty:TypeId}(ht:ts[0]? =some t)(hu:P.underlying t=some .string)(s:ByteArray):(Builtin.len_ ts ty #[.string s]).run P w= .ok (goInt s.size) w:=by
 simp[Builtin.len_,ht,run_underlying hu]
theorem Rk{ts:Array TypeId}{t ty e:TypeId}{n:Nat}(ht:ts[0]? =some t)(hu:P.underlying t=some (.array n e))(v:Value):(Builtin.len_ ts ty #[v]).run P w= .ok (goInt n) w:=by
 simp[Builtin.len_,ht,run_underlying hu]
theorem sb{ts:Array TypeId}{t ty e:TypeId}(ht:ts[0]? =some t)(hu:P.underlying t=some (.slice e))(ad:Option Addr)(n cp:Nat):(Builtin.len_ ts ty #[.slice ad n cp]).run P w= .ok (goInt n) w:=by
 simp[Builtin.len_,ht,run_underlying hu]
theorem ER.Nv{e:Ty}{l:List e.den}{v:Value}(h:ER w M v (.own e l)): ∃ad cp,v= .slice ad l.length cp:=by
 simp only[ER]at h
 rcases h with⟨rfl,a,hv⟩|⟨b,cs,t,cap,hv,_⟩
 ·exact⟨a,0,hv⟩
 ·exact⟨_,cap,hv⟩
theorem ER.Nw{e:Ty}{l:List e.den}{v:Value}(h:ER w M v (.kF e l)): ∃ad cp,v= .slice ad l.length cp:=by
 simp only[ER]at h
 have h:=h.1
 simp only[Rd,auv,au3]at h
 obtain⟨a,cap,hv,_⟩:=h
 exact⟨a,cap,hv⟩
theorem YE(hE:EnvTy P E)(hc:Core c σ a.tmps w M ν){args:Array Operand}{ts:Array TypeId}{x:Operand}(ho:o.op= .call {callee:= .builtin .len,args,argTypes:=ts})(ha:args.toList=[x]){K:fE α}{τ:Ty}
  (ht:(ts.toList.head?).bind E.ty=some τ) (h:Ea τ (σ.ρ x) σ.H K=some r) (hn:dV c σ a o w M ν K r next):o.wp P a w next Q:=by
 obtain⟨t,rf,QK⟩:=au5.1 ht
 have Rl:ts[0]? =some t:=by rw[←rf,←auo,List.head?_eq_getElem?]
 have hl:=hE.ty t τ QK
 have hv:=hc.ev x
 unfold Ea at h
 split at h
 ·rename_i e e' l hx
  obtain⟨_,hu,_⟩:=hl.slice
  rw[hx]at hv
  simp only[VR]at hv
  have hv:=V.slice.1 hv
  simp only[Rd,auv,au3]at hv
  obtain⟨ad,cap,hv,_⟩:=hv
  refine aO (ka ho ha rf (n:=List.length l) fun ty=>by rw[hv];exact sb Rl hu _ _ _) (hn _ [] [] _ _ _ _ h (.refl hc.mem) (.mkInt _ _))
 ·rename_i n e n' e' l hx
  obtain⟨_,hu,_⟩:=hl.arr
  refine aO (ka ho ha rf (n:=n) fun ty=>Rk Rl hu _) (hn _ [] [] _ _ _ _ h (.refl hc.mem) (.mkInt _ _))
 ·rename_i s hx
  rw[hx]at hv
  refine aO (ka ho ha rf (n:=ByteArray.size s) fun ty=>by rw[hv.str];exact Rj Rl hl.str _) (hn _ [] [] _ _ _ _ h (.refl hc.mem) (.mkInt _ _))
 ·rename_i e hx
  obtain⟨_,hu,_⟩:=hl.slice
  rw[hx]at hv
  simp only[VR]at hv
  obtain⟨ad,hv⟩:=hv
  refine aO (ka ho ha rf (n:=0) fun ty=>by rw[hv];exact sb Rl hu _ _ _) (hn _ [] [] _ _ _ _ h (.refl hc.mem) (.mkInt _ _))
 ·rename_i e id hx
  obtain⟨_,hu,_⟩:=hl.slice
  rw[hx]at hv
  simp only[VR]at hv
  split at h
  ·rename_i e' l aT
   obtain⟨ad,cap,hh⟩:=(hc.mem.iT id _ aT).Nv
   refine aO (ka ho ha rf (n:=l.length) fun ty=>by rw[hv.2,hh];exact sb Rl hu _ _ _) (hn _ [id] [] _ _ _ _ h (.refl hc.mem) (.mkInt _ _))
  ·rename_i e' l aT
   obtain⟨ad,cap,hh⟩:=(hc.mem.iT id _ aT).Nw
   refine aO (ka ho ha rf (n:=l.length) fun ty=>by rw[hv.2,hh];exact sb Rl hu _ _ _) (hn _ [id] [] _ _ _ _ h (.refl hc.mem) (.mkInt _ _))
  ·cases h
 ·cases h
theorem Ex{H:Nat→Option aR}(up:Bool): ∀(xs:List aW) (x:aW) (v:Value) (vs:List Value) (K:aW→Option α),VR w M H ν x v→fN w M H ν xs vs→QG up x xs K=some r→
  ∃x' v',K x'=some r∧(vs.foldlM (if up then Builtin.max2 else Builtin.min2) v).run P w= .ok v' w∧VR w M H ν x' v'
 |[],x,v,[],K,hx,_,h=>⟨x,v,h,by simp,hx⟩
 |[],_,_,_::_,_,_,hs,_=>by simp[fN]at hs
 |_::_,_,_,[],_,_,hs,_=>by simp[fN]at hs
 |y::xs,x,v,u::vs,K,hx,hs,h=>by
  simp only[fN]at hs
  obtain⟨hy,hs⟩:=hs
  unfold QG at h
  obtain⟨k,m,e1,h1⟩:=ju h
  obtain⟨k',n,e2,h2⟩:=ju h1
  clear h h1
  split at h2
  ·rename_i hk
   subst hk
   rw[e1]at hx;rw[e2]at hy
   have hx:=hx.int
   have hy:=hy.int
   obtain⟨x',v',hK,cD,hV⟩:=Ex up xs _ (.int k (cond up (mx m n) (mn m n))) vs K (.mkInt _ _) hs h2
   refine⟨x',v',hK,?_,hV⟩
   rw[List.foldlM_cons,Sem.run_bind]
   have:((if up then Builtin.max2 else Builtin.min2) v u).run P w= .ok (.int k (cond up (mx m n) (mn m n))) w:=by
    rw[hx,hy]
    cases up
    ·simp[Builtin.min2,Xa]
    ·simp[Builtin.max2,adu]
   rw[this]
   exact cD
  ·cases h2
theorem Xf(hc:Core c σ a.tmps w M ν)(up:Bool){args:Array Operand}{ts:Array TypeId}{x:Operand}{xs:List Operand}(ho:o.op= .call {callee:= .builtin (if up then .max else .min),args,argTypes:=ts})(ha:args.toList=x::xs){K:fE α}
  (h:QG up (σ.ρ x) (xs.map σ.ρ) (fun v=>K v [] [])=some r) (hn:dV c σ a o w M ν K r next):o.wp P a w next Q:=by
 obtain⟨x',v',hK,cD,hV⟩:=Ex (P:=P) up (xs.map σ.ρ) (σ.ρ x) (a.eval x) (xs.map a.eval) _ (hc.ev x) (hc.evs xs) h
 refine aO ?_ (hn _ [] [] _ _ _ _ hK (.refl hc.mem) hV)
 obtain⟨cs,hr⟩:=mQ (P:=P) (ρ:=a.eval) ho (w:=w)
 rw[hr]
 have hm:(args.map a.eval).toList=a.eval x::xs.map a.eval:=by simp[ha]
 cases up
 ·simp only[auA,avq,builtin,Builtin.min_,hm,Sem.run_bind]at cD ⊢
  rw[cD];simp
 ·simp only[av8,builtin,Builtin.max_,hm,Sem.run_bind]at cD ⊢
  rw[cD];simp
theorem AU{ρ:Operand→Value}{t:TypeId}{x i:Operand}(ho:o.op= .index t x i){k:IntKind}{n:Int}{s:ByteArray}
  (hu:P.underlying t=some .string) (hx:ρ x= .string s) (hi:ρ i= .int k n) (h0:0≤n) (h1:n<(s.size:Int)):
  (execOp ρ o).run P w= .ok (.value (.int .u8 ((s.data.getD n.toNat 0).toNat:Int))) w:=by
 have dZ:n.toNat<s.size:=by omega
 have hs:s[n.toNat]? =some (s[n.toNat]'dZ):=by simp[dZ]
 have he:s[n.toNat]'dZ=s.data.getD n.toNat 0:=by
  have tp:n.toNat<s.data.size:=dZ
  rw[Array.getD,dif_pos tp];rfl
 simp[execOp,ho,hx,hi,Instr.index,asIntOf,run_underlying hu,h0,hs,he]
theorem Nx(hE:EnvTy P E)(hc:Core c σ a.tmps w M ν){t:TypeId}{x i:Operand}(ho:o.op= .index t x i){K:fE α}{τ:Ty}(ht:E.ty t=some τ)
  (h:qY τ (σ.ρ x) (σ.ρ i) (fun v=>K v [] [])=some r) (hn:dV c σ a o w M ν K r next):o.wp P a w next Q:=by
 unfold qY at h
 obtain⟨k,n,hi,h2⟩:=ju h
 clear h
 have h:=h2
 clear h2
 have JO:=hc.ev i
 rw[hi]at JO
 have JO:=JO.int
 have hv:=hc.ev x
 have ux:=hE.ty t τ ht
 split at h
 ·rename_i len e υ l hx
  obtain⟨e',HG,hle⟩:=ux.arr
  obtain⟨e1,h⟩:=aY h
  subst e1
  obtain⟨jN,h⟩:=bB h
  obtain⟨h0,h1⟩:=pD jN
  rw[hx]at hv
  simp only[VR]at hv
  obtain⟨cs,hu,hr⟩:=hv.agg rfl
  have dU:=hr.idx (i:=n.toNat) (by omega)
  refine aO (AO ho HG hle hu JO h0 h1 dU) (hn _ [] [] _ _ _ _ h (.refl hc.mem) ?_)
  simp only[VR]
  exact V.bK dU
 ·rename_i s hx
  obtain⟨jN,h⟩:=bB h
  obtain⟨h0,h1⟩:=pD jN
  rw[hx]at hv
  refine aO (AU ho ux.str hv.str JO h0 h1) (hn _ [] [] _ _ _ _ h (.refl hc.mem) (.mkInt _ _))
 ·cases h
theorem kH(τ:Ty):τ.cf.length=τ.size:=(Rd.zero default (fun _=>False) τ).length
theorem xw{z:Array Value}{n i s:Nat}(hz:z.size=s)(hi:i*s+s≤n):((madeCells z n).toList.drop (i*s)).take s=z.toList:=by
 apply awk
 intro j
 rw[auN]
 split
 ·rename_i hj
  rw[auO,auo,auo]
  simp only[madeCells,Array.getElem?_map]
  rw[Array.getElem?_range,atK (by omega)]
  simp only[Option.map_some]
  have:(i*s+j)%z.size=j:=by rw[hz,axc,Nat.mul_add_mod,Nat.mod_eq_of_lt hj]
  rw[this,awF (by omega),getElem!_pos z j (by omega)]
 ·rename_i hj
  rw[auo,awO (by omega)]
theorem mR.made(w:World)(M:Nat→Prop)(e:Ty){n l:Nat}(h:l*e.size≤n):mR w M e (madeCells (bK e e.cf).cells n).toList (List.replicate l e.zero):=by
 intro i hi
 rw[atT]at hi
 have:=cR (s:=e.size) hi
 rw[xw (by rw[←atO,eI,kH]) (by omega),eI,awP]
 exact Rd.zero w M e
theorem vI{ρ:Operand→Value}{t:TypeId}{x y:Operand}(ho:o.op= .makeSlice t x y){v:Value}{w':World}(h:(Instr.makeSlice t (ρ x) (ρ y)).run P w= .ok v w'):(execOp ρ o).run P w= .ok (.value v) w':=by
 simp[execOp,ho,h]
theorem CE(hE:EnvTy P E)(hc:Core c σ a.tmps w M ν){t:TypeId}{x y:Operand}(ho:o.op= .makeSlice t x y){K:fE α}{e:Ty}(ht:E.ty t=some (.slice e)){id:Nat}
  (h:qU (σ.ρ x) (fun _ l=>qU (σ.ρ y) fun _ c=>cond (gm l c)
   (mM σ.H id (.own e []) (K (.ref id) [id] [(id,some (.own e (List.replicate l.toNat e.zero)))])) none)=some r) (hn:dV c σ a o w M ν K r next):o.wp P a w next Q:=by
 obtain⟨k,l,hx,h1⟩:=ju h
 obtain⟨k',n,hy,h2⟩:=ju h1
 clear h h1
 obtain⟨hk,h⟩:=bB h2
 obtain⟨aT,h⟩:=ig h
 rw[Bn]at hk
 obtain⟨h0,h1,h3⟩:=atY hk
 simp only[uh]at h3
 obtain⟨e',hu,hle⟩:=(hE.ty t _ ht).slice
 obtain⟨i,hi,hs,hz,hb⟩:=hle.base
 have CF:=hc.ev x
 have xu:=hc.ev y
 rw[hx]at CF;rw[hy]at xu
 have YF:(i.bytes:Int)*n≤281474976710656:=by
  have h4:(i.bytes:Int)≤2048:=by omega
  have:(i.bytes:Int)*n≤2048*n:=awt h4 (by omega)
  omega
 have cD:=run_make (P:=P) w t e' i _ hu hi hz k k' l n h0 h1 YF (by omega)
 have hlen:(List.replicate l.toNat e.zero).length=l.toNat:=atT
 have eY:=Tr.row hc.mem aT e' (e:=e) (cs:=madeCells (bK e e.cf).cells (n.toNat*i.size)) (l:=List.replicate l.toNat e.zero) (cap:=n.toNat) (by rw[hlen];omega) (by simp[maxLen];omega)
  (by rw[size_madeCells,hs]) (mR.made w M e (awy (by omega) (by omega)))
 refine aO (vI ho (by rw[CF.int,xu.int];exact cD)) (hn _ _ _ _ _ _ _ h eY ?_)
 simp only[VR]
 exact⟨by show bo σ.H id _ id≠none;rw[ak];simp,by simp[cn]⟩
end VM
end
