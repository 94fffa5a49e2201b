/- A part of the proof of TearShares of layer 29: a machine that reads a function of the program as an equation between values. -/
import Derived.Test.YtocmlaipoebfeaaGreatVm1
set_option linter.all false
section
namespace VM
open Go
variable{P:Program}{E:Env}{o:Oper}{a:Act}{w:World}{M:Nat→Prop}{ν:Nat→Value}{σ:St}{c:Ctx}{α:Type}{r:α}{next:Act→World→Prop}{Q:Exit→Act→World→Prop}
theorem aL{v:Value}{w':World}(h:(execOp a.eval o).run P w= .ok (.value v) w')(hn:next (a.put o.dst v) w'):o.wp P a w next Q:=by
 unfold Oper.wp Oper.upon;rw[h];exact hn
theorem mm{w':World}(h:(execOp a.eval o).run P w= .ok .skip w')(hn:next (a.put o.dst undef) w'):o.wp P a w next Q:=by
 unfold Oper.wp Oper.upon;rw[h];exact hn
def dM(c:Ctx)(σ:St)(a:Act)(o:Oper)(w:World)(M:Nat→Prop)(ν:Nat→Value)(K:fk α)(r:α)(next:Act→World→Prop):Prop:=
 ∀v rd ups v' w' M' ν',K v rd ups=some r→Tr c σ.H w M ν (bS σ.H ups) w' M' ν'→VR w' M' (bS σ.H ups) ν' v v'→next (a.put o.dst v') w'
theorem Core.ev(h:Core c σ a.tmps w M ν)(x:Operand):VR w M σ.H ν (σ.ρ x) (a.eval x):=h.op a.defers x
theorem jn{x:aY}{k:IntKind→Int→Option α}(h:qx x k=some r): ∃(i:IntKind) (n:Int),x= .val (.int i) n∧k i n=some r:=by
 unfold qx at h
 split at h
 ·exact⟨_,_,rfl,h⟩
 ·cases h
theorem VR.int{H:Nat→Option aQ}{k:IntKind}{n:Int}{v:Value}(h:VR w M H ν (.val (.int k) n) v):v= .int k n:=by
 simp only[VR,V,Ty.isAgg,au6,avQ,Rd,auZ,avB]at h;exact h
theorem VR.bool{H:Nat→Option aQ}{b:Bool}{v:Value}(h:VR w M H ν (.val .bool b) v):v= .bool b:=by
 simp only[VR,V,Ty.isAgg,au6,avQ,Rd,auZ,avB]at h;exact h
theorem VR.str{H:Nat→Option aQ}{b:ByteArray}{v:Value}(h:VR w M H ν (.val .str b) v):v= .string b:=by
 simp only[VR,V,Ty.isAgg,au6,avQ,Rd,auZ,avB]at h;exact h
theorem VR.mkInt{H:Nat→Option aQ}(k:IntKind)(n:Int):VR w M H ν (.val (.int k) n) (.int k n):=by simp[VR,V,Ty.isAgg,Rd]
theorem VR.o7{H:Nat→Option aQ}(b:Bool):VR w M H ν (.val .bool b) (.bool b):=by simp[VR,V,Ty.isAgg,Rd]
theorem VR.mkStr{H:Nat→Option aQ}(b:ByteArray):VR w M H ν (.val .str b) (.string b):=by simp[VR,V,Ty.isAgg,Rd]
theorem JD(hc:Core c σ a.tmps w M ν){x:Operand}(ho:o.op= .move x∨o.op= .assign x){K:fk α}(h:K (σ.ρ x) [] []=some r)(hn:dM c σ a o w M ν K r next):o.wp P a w next Q:=by
 have hr:(execOp a.eval o).run P w= .ok (.value (a.eval x)) w:=by
  rcases ho with ho|ho
  ·simp[execOp,ho]
  ·simp[execOp,ho]
 exact aL hr (hn _ _ _ _ _ _ _ h (.refl hc.mem) (hc.ev x))
theorem QT(hc:Core c σ a.tmps w M ν){x y z:Operand}(ho:o.op= .pick x y z){K:fk α}{t:Bool}(hx:σ.ρ x= .val .bool t)(h:cond t (K (σ.ρ y) [] []) (K (σ.ρ z) [] [])=some r)
  (hn:dM c σ a o w M ν K r next):o.wp P a w next Q:=by
 have hv:=hc.ev x
 rw[hx]at hv
 refine aL (Ed ho hv.bool) ?_
 cases t
 ·exact hn _ _ _ _ _ _ _ h (.refl hc.mem) (hc.ev z)
 ·exact hn _ _ _ _ _ _ _ h (.refl hc.mem) (hc.ev y)
theorem hZ{H:Nat→Option aQ}{id:Nat}{e:aQ}{K:Option α}(h:me H id e K=some r):H id=none∧K=some r:=by
 unfold me at h
 split at h
 ·rename_i h';exact⟨h',h⟩
 ·cases h
theorem VR.Xt{H:Nat→Option aQ}{id:Nat}{τ:Ty}{x:τ.den}{b:Nat}(aS:H id=some (.obj τ x))(hν:ν id= .pointer (some ⟨b,0,none⟩)):VR w M H ν (.fC id []) (.pointer (some ⟨b,0,none⟩)):=by
 simp only[VR]
 exact⟨_,aS,trivial,b,hν,rfl⟩
theorem VR.M7{H:Nat→Option aQ}{id:Nat}{τ:Ty}{x:τ.den}{q:List Step}{j b:Nat}(aS:H id=some (.dO τ x q j))(hν:ν id= .pointer (some ⟨b,0,none⟩)):VR w M H ν (.fC id []) (.pointer (some ⟨b,0,none⟩)):=by
 simp only[VR]
 exact⟨_,aS,trivial,b,hν,rfl⟩
theorem eA(τ:Ty):(bF τ τ.ca).cells.toList=τ.ca:=AF (Rd.zero default (fun _=>False) τ)
theorem Ee: ∀{τ:Ty} {n:Nat} {a:Ty},Cm τ n=some a→ ∃l m,τ.ca=l++(a.ca++m)∧l.length=nr τ n:=by
 intro τ
 induction τ with
 |pair a b _ M6=>
  intro n c h
  cases n with
  |zero=>cases h;exact⟨[],b.ca,rfl,rfl⟩
  |succ n=>
   obtain⟨l,m,h1,h2⟩:=M6 (n:=n) (a:=c) h
   refine⟨a.ca++l,m,by simp only[Ty.ca];rw[h1,aur],?_⟩
   rw[aug,h2,(Rd.zero default (fun _=>False) a).length];rfl
 |_=>intro n c h;simp[Cm]at h
theorem tI: ∀{p:List Step} {τ υ:Ty},ej p τ υ=true→ ∃l m,τ.ca=l++(υ.ca++m)∧l.length=bC p τ
 |[],τ,υ,h=>by
  have h:=auw h
  subst h
  exact⟨[],[],by simp,rfl⟩
 | .gA n::p,τ,υ,h=>by
  unfold ej at h
  split at h
  ·rename_i a ha
   obtain⟨l,m,h1,h2⟩:=Ee ha
   obtain⟨l',m',h3,h4⟩:=tI h
   obtain⟨_,_,hf⟩:=oA ha τ.zero
   have:=hf.eq.1
   subst this
   refine⟨l++l',m'++m,by rw[h1,h3];simp,?_⟩
   rw[aug,h2,h4];rfl
  ·cases h
 | .idx _::_,_,_,h=>by simp[ej]at h
theorem Bm{p:List Step}{τ e:Ty}(h:ej p τ (.slice e)=true):τ.ca[bC p τ]? =some (.slice none 0 0):=by
 obtain⟨l,m,h1,h2⟩:=tI h
 rw[h1,au5 (by omega),h2,axb];rfl
theorem bB{b:Bool}{K:Option α}(h:cond b K none=some r):b=true∧K=some r:=by
 cases b
 ·cases h
 ·exact⟨rfl,h⟩
theorem JE{τ:Ty}{q:List Step}{e:Ty}(h:lkT E τ=some (q,e)):ej q τ (.slice e)=true:=by
 unfold lkT at h
 split at h
 ·rename_i υ q' e' _ _
  cases hd:decide (υ=τ)<;>rw[hd]at h
  ·cases h
  ·simp only[aua]at h
   cases hp:ej q' τ (.slice e')<;>rw[hp]at h
   ·cases h
   ·cases h;exact hp
 ·cases h
theorem oG{τ:Ty}{id:Nat}{q:List Step}{e:Ty}(h:Co E τ id=some (q,e)):ej q τ (.slice e)=true:=by
 unfold Co at h
 split at h
 ·exact JE (bB h).2
 ·cases h
theorem yE{H:Nat→Option aQ}{id:Nat}{τ:Ty}{x:τ.den}{q:List Step}{e:Ty}{K:fk α}(h:xb H id τ x q e K=some r):H id=none∧H (id+1)=none∧K (.fC id []) [id,id+1] [(id,some (.dO τ x q (id+1))),(id+1,some (.own e []))]=some r:=by
 unfold xb at h
 obtain⟨h1,h⟩:=hZ h
 obtain⟨h2,h⟩:=hZ h
 exact⟨h1,h2,h⟩
theorem KS{H:Nat→Option aQ}{i j:Nat}{u v:Option aQ}(h:i≠j):bn (bn H i u) j v=bn (bn H j v) i u:=by
 funext k
 by_cases hi:k=i
 ·subst hi;rw[al _ _ h,ak,ak]
 ·by_cases hj:k=j
  ·subst hj;rw[ak,al _ _ hi,ak]
  ·rw[al _ _ hj,al _ _ hi,al _ _ hi,al _ _ hj]
theorem sQ{H:Nat→Option aQ}{i:Nat}{u v:Option aQ}:bn (bn H i u) i v=bn H i v:=by
 funext k
 by_cases hi:k=i
 ·subst hi;rw[ak,ak]
 ·rw[al _ _ hi,al _ _ hi,al _ _ hi]
theorem Tr.M8{H:Nat→Option aQ}(h:Mem c H w M ν){id k:Nat}(hk:H k=none){τ:Ty}{x:τ.den}(aS:H id=some (.obj τ x)){b:Nat}{cs:Array Value}{t:TypeId}(hb:ν id= .pointer (some ⟨b,0,none⟩))(hg:w.heap[b]? =some (.cells cs t (0,0)))
  {q:List Step} {e:Ty} (hq:ej q τ (.slice e)=true) {ad:Option Addr} (hz:cs.toList[bC q τ]? =some (.slice ad 0 0)):
  Tr c H w M ν (bS H [(id,some (.dO τ x q k)),(k,some (.own e []))]) w M (cj ν k (.slice ad 0 0)):=by
 have fL:k≠id:=fun e=>by rw[e,aS]at hk;cases hk
 have h2:=Tr.nothing h hk e ad
 have hd2:bn H k (some (.own e [])) id=some (.obj τ x):=by rw[al _ _ (av0 fL)];exact aS
 have hν:cj ν k (.slice ad 0 0) id= .pointer (some ⟨b,0,none⟩):=by unfold cj;rw[aui (av0 fL)];exact hb
 have hν1:cj ν k (.slice ad 0 0) k= .slice ad 0 0:=by simp[cj]
 have he:=h2.mem.iN id _ hd2
 simp only[ER]at he
 obtain⟨b',cs',t',dy,hg',hM,gV⟩:=he
 rw[hν]at dy;cases dy
 rw[hg]at hg';cases hg'
 have h3:=Tr.KP h2.mem hd2 trivial (e':= .dO τ x q k) trivial rfl (fun _ _=>by simp) (by
   rw[hν];simp only[ER]
   exact⟨_,cs,t,cs.toList,.slice ad 0 0,rfl,hg,hM,gV,(D9 hz).symm,rfl,e,hq⟩)
  (fun τ' x' p' j' hl=>by
   cases hl
   refine⟨by rw[ak];simp,_,hν,?_⟩
   rw[hν1,cell_of hg,←auS];exact hz)
 rw[KS (i:=k) (j:=id) fL]at h3
 exact h2.trans h3
theorem Tr.xb{H:Nat→Option aQ}(h:Mem c H w M ν){id:Nat}(aS:H id=none)(kY:H (id+1)=none)(t:TypeId){τ:Ty}{cs:Array Value}{x:τ.den}(hr:Rd w M τ cs.toList x){q:List Step}{e:Ty}(hq:ej q τ (.slice e)=true){ad:Option Addr}
  (hz:cs.toList[bC q τ]? =some (.slice ad 0 0)):
  ∃M' ν',Tr c H w M ν (bS H [(id,some (.dO τ x q (id+1))),(id+1,some (.own e []))]) (w.alloc (.cells cs t)) M' ν'∧ν' id= .pointer (some ⟨w.heap.size,0,none⟩):=by
 have h1:=Tr.var h aS t hr
 have h2:=Tr.M8 h1.mem (id:=id) (k:=id+1) (by rw[al _ _ (by omega)];exact kY) (ak _ _ _) (by simp[cj]) (yA w _) hq hz
 have e1:bS (bn H id (some (.obj τ x))) [(id,some (.dO τ x q (id+1))),(id+1,some (.own e []))]=bS H [(id,some (.dO τ x q (id+1))),(id+1,some (.own e []))]:=by
  show bn (bn (bn H id _) id _) (id+1) _=bn (bn H id _) (id+1) _
  rw[sQ]
 rw[e1]at h2
 exact⟨_,_,h1.trans h2,by simp[cj]⟩
theorem M9(hE:EnvTy P E)(hc:Core c σ a.tmps w M ν){t:TypeId}(ho:o.op= .alloc t){K:fk α}{τ:Ty}(ht:E.ty t=some τ){id:Nat}
  (h:(match Co E τ id with
   |some (q,e)=>xb σ.H id τ τ.zero q e K
   |none=>me σ.H id (.obj τ τ.zero) (K (.fC id []) [id] [(id,some (.obj τ τ.zero))]))=some r) (hn:dM c σ a o w M ν K r next):o.wp P a w next Q:=by
 obtain⟨i,hi,hs,hz,_⟩:=(hE.ty t τ ht).base
 have hr:Rd w M τ (bF τ τ.ca).cells.toList τ.zero:=by rw[eA];exact Rd.zero w M τ
 split at h
 ·rename_i q e oD
  obtain⟨aS,kY,h⟩:=yE h
  obtain⟨M',ν',eO,hν⟩:=Tr.xb hc.mem aS kY t hr (oG oD) (by rw[eA];exact Bm (oG oD))
  refine aL (tG ho hi hz w) (hn _ _ _ _ _ M' ν' h eO ?_)
  exact VR.M7 (by show bn _ (id+1) _ id=_;rw[al _ _ (by omega),ak]) hν
 ·obtain⟨aS,h⟩:=hZ h
  refine aL (tG ho hi hz w) (hn _ _ _ _ _ _ _ h (Tr.var hc.mem aS t hr) (VR.Xt (ak _ _ _) (by simp[cj])))
theorem JF(hE:EnvTy P E)(hc:Core c σ a.tmps w M ν){t:TypeId}{x:Operand}(ho:o.op= .box t x){K:fk α}{τ:Ty}{id:Nat}
  (h:iC true (σ.ρ x) σ.H τ (fun y rd ups=>me σ.H id (.obj τ y) (K (.fC id []) (id::rd) (ups++[(id,some (.obj τ y))])))=some r) (hn:dM c σ a o w M ν K r next):o.wp P a w next Q:=by
 obtain⟨y,rd,ups,M',h,eO,hV,hz,_⟩:=ka (.refl _) hc.mem (hc.ev x) h
 obtain⟨aS,h⟩:=hZ h
 have YF:bS σ.H ups id=none:=hz.none aS
 have qG:=eO.trans (Tr.var eO.mem YF t hV.cells)
 refine aL (yB ho w) (hn _ _ _ _ _ (fun b=>M' b∨b=w.heap.size) (cj ν id (.pointer (some ⟨w.heap.size,0,none⟩))) h ?_ ?_)
 ·rw[dS];exact qG
 ·rw[dS];exact VR.Xt (ak _ _ _) (by simp[cj])
theorem YG(hE:EnvTy P E)(hc:Core c σ a.tmps w M ν){t:TypeId}{x:Operand}(ho:o.op= .box t x){K:fk α}{τ:Ty}{id:Nat}
  (h:(match Co E τ id,σ.ρ x with
   |some ([.gA m],e),.Cn υ y n=>cond (Nat.beq m n) (b7 υ τ y fun y=>xb σ.H id τ y [.gA m] e K) (iC true (σ.ρ x) σ.H τ (fun y rd ups=>me σ.H id (.obj τ y) (K (.fC id []) (id::rd) (ups++[(id,some (.obj τ y))]))))
   |_,_=>iC true (σ.ρ x) σ.H τ (fun y rd ups=>me σ.H id (.obj τ y) (K (.fC id []) (id::rd) (ups++[(id,some (.obj τ y))]))))=some r) (hn:dM c σ a o w M ν K r next):o.wp P a w next Q:=by
 split at h
 ·rename_i m e υ y n oD hx
  cases hb:Nat.beq m n
  ·rw[hb]at h
   exact JF hE hc ho h hn
  ·rw[hb]at h
   have yF:=auN hb
   subst yF
   simp only[aua]at h
   obtain⟨e1,h⟩:=a6 h
   subst e1
   obtain⟨aS,kY,h⟩:=yE h
   have hv:=hc.ev x
   rw[hx]at hv
   simp only[VR]at hv
   obtain⟨hV,cs,ad,hva,hz⟩:=hv
   have Cw:(a.eval x).cells.toList=cs.toList:=by rw[hva];rfl
   obtain⟨M',ν',eO,hν⟩:=Tr.xb hc.mem aS kY t hV.cells (oG oD) (ad:=ad) (by rw[Cw];simpa [bC]using hz)
   refine aL (yB ho w) (hn _ _ _ _ _ M' ν' h eO ?_)
   exact VR.M7 (by show bn _ (id+1) _ id=_;rw[al _ _ (by omega),ak]) hν
 ·exact JF hE hc ho h hn
theorem o8{i:Int}{n:Nat}(h:aK i n=true):0≤i∧i<(n:Int):=by rw[MX]at h;simpa using h
theorem iO{b:Bool}{K:Option α}(h:cond b none K=some r):b=false∧K=some r:=by
 cases b
 ·exact⟨rfl,h⟩
 ·cases h
theorem wu(hm:Mem c σ.H w M ν){x:aY}{u:Value}(hv:VR w M σ.H ν x u){K:(υ:Ty)→υ.den→List Nat→Option α}(h:gU x σ.H K=some r):
  ∃υ y rd,K υ y rd=some r∧ ∃b off cs,u= .pointer (some ⟨b,off,none⟩)∧At w b off cs∧Rd w M υ cs y:=by
 unfold gU at h
 split at h
 ·simp only[VR]at hv
  obtain⟨b,off,rfl,_,_,cs,ha,hr⟩:=hv
  exact⟨_,_,_,h,b,off,cs,rfl,ha,hr⟩
 ·rename_i id p
  simp only[VR]at hv
  obtain⟨e,he,jO⟩:=hv
  have ja:=hm.iN id e he
  rw[he]at h
  cases e with
  |obj τ x=>
   obtain⟨υ,y,o',hp,hK⟩:=gh h
   simp only[AR]at jO
   obtain⟨hi,b,hb,rfl⟩:=jO
   simp only[ER]at ja
   obtain⟨b',cs,t,dy,hg,_,hr⟩:=ja
   rw[hb]at dy;cases dy
   have:=hp.eq.2
   subst this
   exact⟨υ,y,_,hK,b,_,_,rfl,At.of_block hg _ _,hp.rd hi hr⟩
  |own e l=>
   simp only[AR]at jO
   obtain⟨i,q,rfl,AJ,hi,b,n,cp,hb,rfl⟩:=jO
   obtain⟨υ,y,o',hp,hK⟩:=gh h
   simp only[ER]at ja
   rcases ja with⟨rfl,_⟩|⟨b',cs,t,cap,dy,hg,_,MJ,hl,Bk,hs,hr⟩
   ·simp at AJ
   ·rw[hb]at dy;cases dy
    have:=hp.eq.2
    subst this
    have h1:=hr i AJ
    rw[←gE l i e.zero AJ]at h1
    have h2:=hp.rd hi h1
    have h3:=hp.bound hi
    rw[awi,avr,awj,avd (by omega)]at h2
    exact⟨υ,y,_,hK,b,_,_,rfl,At.of_block hg _ _,h2⟩
  |kt e l=>
   simp only[AR]at jO
   obtain⟨i,q,rfl,AJ,hi,b,n,cp,hb,rfl⟩:=jO
   obtain⟨υ,y,o',hp,hK⟩:=gh h
   simp only[ER]at ja
   have gV:=ja.1
   simp only[Rd,auZ,avB]at gV
   obtain⟨a0,cap,ha0,_,hr⟩:=gV
   obtain⟨b',off,rfl,_,_,cs,lC,Qp⟩:=hr i AJ
   rw[hb]at ha0;cases ha0
   have:=hp.eq.2
   subst this
   rw[avk]at lC
   have adF:Rd w M e cs (List.getD l i e.zero):=by rw[gE l i e.zero AJ];exact Qp
   have h2:=hp.rd hi adF
   have h3:=hp.bound hi
   have QS:=adF.length
   refine⟨υ,y,_,hK,b,_,_,rfl,?_,h2⟩
   intro j v hj
   rw[avi]at hj
   split at hj
   ·rw[avj]at hj
    have:=lC _ v hj
    rwa [←awe]at this
   ·cases hj
  |dO _ _ _ _=>cases h
  |gone=>cases h
 ·cases h
theorem Mem.linked{H:Nat→Option aQ}(hm:Mem c H w M ν){id:Nat}{τ:Ty}{x:τ.den}{q:List Step}{j:Nat}(aS:H id=some (.dO τ x q j)):
  ∃b cs t nH e,ν id= .pointer (some ⟨b,0,none⟩)∧w.heap[b]? =some (.cells cs t (0,0))∧M b∧Rd w M τ nH x∧cs.toList=dg nH (bC q τ) [ν j]∧(ν j).oneCell'=true∧ej q τ (.slice e)=true∧bC q τ<nH.length∧H j≠none:=by
 have ja:=hm.iN id _ aS
 simp only[ER]at ja
 obtain⟨b,cs,t,nH,u,hb,hg,hM,hr,Cw,h1,e,hq⟩:=ja
 obtain⟨hj,b',dy,JG⟩:=hm.dO id _ _ _ _ aS
 rw[hb]at dy;cases dy
 obtain⟨y,o,hp⟩:=oB hq x
 have dz:bC q τ<nH.length:=by
  have:=hp.bound (gF hq).1
  have h2:=hp.eq.2
  have h3:=hr.length
  have:(Ty.slice e).size=1:=rfl
  omega
 have hu:u=ν j:=by
  rw[cell_of hg,←auS,Cw,xR dz]at JG
  exact Option.some.inj JG
 subst hu
 exact⟨b,cs,t,nH,e,hb,hg,hM,hr,Cw,h1,hq,dz,hj⟩
theorem sR{H:Nat→Option aQ}(hm:Mem c H w M ν){id:Nat}{τ:Ty}{x:τ.den}{q:List Step}{j:Nat}(aS:H id=some (.dO τ x q j)){k:τ.den→fj→Option α}(h:xa j q τ x H k=some r):
  ∃z ups M',k z ups=some r∧Tr c H w M ν (bS H ups) w M' ν∧Fz H (bS H ups)∧((∃e l,H j=some (.kt e l)∧ups=[])∨ ∃e l,H j=some (.own e l)∧ups=[(j,some (.kt e l))])∧ ∃b cs t,ν id= .pointer (some ⟨b,0,none⟩)∧w.heap[b]? =some (.cells cs t (0,0))∧M' b∧Rd w M' τ cs.toList z:=by
 obtain⟨b,cs,t,nH,e0,hb,hg,hM,hr,Cw,h1,hq,dz,hj⟩:=hm.linked aS
 have Na:=(gF hq).1
 unfold xa at h
 split at h
 ·rename_i e l AA
  obtain⟨z,hz,AK,Az,ss⟩:=kE h
  obtain⟨M',eO,hV,hM'⟩:=Tr.freeze hm AA
  refine⟨z,_,M',hz,eO,fun i=> ?_,.inr ⟨e,l,AA,rfl⟩,b,cs,t,hb,hg,?_,?_⟩
  ·by_cases hi:i=j
   ·subst hi;exact .inr ⟨e,l,AA,ak _ _ _⟩
   ·exact .inl (al _ _ hi)
  ·refine(hM' b).2 ⟨hM,fun hjb=> ?_⟩
   have fL:j≠id:=fun e=>by rw[e,aS]at AA;cases AA
   exact hm.u7 j id _ _ b fL AA trivial aS trivial hjb (by rw[hb];rfl)
  ·rw[Cw]
   exact ss w M' nH [ν j] Na (hr.bt eO.bt) (V.slice.1 hV)
 ·rename_i e l AA
  obtain⟨z,hz,AK,Az,ss⟩:=kE h
  have ja:=hm.iN j _ AA
  simp only[ER]at ja
  refine⟨z,_,M,hz,.refl hm,.refl H,.inl ⟨e,l,AA,rfl⟩,b,cs,t,hb,hg,hM,?_⟩
  rw[Cw]
  exact ss w M nH [ν j] Na hr ja.1
 ·cases h
theorem acW{τ υ:Ty}{t:TypeId}(hE:EnvTy P E)(ht:E.ty t=some τ)(h:ej ([]:List Step) υ τ=true):υ=τ:=auw h
theorem Rd.YH{e:Ty}{v:Value}{cs:List Value}{l:List e.den}(h:Rd w M (.slice e) cs l): ∃a n cap,cs=[.slice a n cap]:=by
 simp only[Rd]at h
 obtain⟨a,cap,rfl,_⟩:=h
 exact⟨a,_,cap,rfl⟩
theorem AL{ρ:Operand→Value}{t:TypeId}{x:Operand}(ho:o.op= .load t x){τ:Ty}(h:gD P τ t)(ha:τ.isAgg=false){b off:Nat}{v:Value}(hx:ρ x= .pointer (some ⟨b,off,none⟩))(hc:w.cell? ⟨b,off,none⟩=some v):
  (execOp ρ o).run P w= .ok (.value v) w:=by
 have:(loadVar t ⟨b,off,none⟩).run P w= .ok v w:=by
  simp[loadVar,oE h,ha,load,Sem.run,hc]
 simp[execOp,ho,hx,Instr.loadAt,Instr.sureAddr,this]
theorem Ef(hE:EnvTy P E)(hc:Core c σ a.tmps w M ν){t:TypeId}{x:Operand}(ho:o.op= .load t x){K:fk α}{τ:Ty}(ht:E.ty t=some τ)
  (h:gU (σ.ρ x) σ.H (fun υ y rd=>b7 υ τ y fun z=>K (.val τ z) rd [])=some r) (hn:dM c σ a o w M ν K r next):o.wp P a w next Q:=by
 obtain⟨υ,y,rd,h,b,off,cs,hu,lC,hr⟩:=wu hc.mem (hc.ev x) h
 obtain⟨e,h⟩:=a6 h
 subst e
 refine aL (qE ho (hE.ty t _ ht) hu lC hr) (hn _ _ _ _ _ _ _ h (.refl hc.mem) ?_)
 simp only[VR]
 exact V.bF hr
theorem QU(hE:EnvTy P E)(hc:Core c σ a.tmps w M ν){t:TypeId}{x:Operand}(ho:o.op= .load t x){K:fk α}{τ:Ty}(ht:E.ty t=some τ)
  (h:p5 τ (σ.ρ x) σ.H K=some r) (hn:dM c σ a o w M ν K r next):o.wp P a w next Q:=by
 unfold p5 at h
 simp only at h
 split at h
 ·rename_i id p hx
  split at h
  ·rename_i υ z q j aS
   have hv:=hc.ev x
   rw[hx]at hv
   simp only[VR]at hv
   obtain⟨e1,HV,jO⟩:=hv
   rw[aS]at HV;cases HV
   simp only[AR]at jO
   obtain⟨hi,b,hb,hu⟩:=jO
   obtain⟨b',cs,te,nH,e0,dy,hg,hM,hr,Cw,h1,hq,dz,hj⟩:=hc.mem.linked aS
   rw[hb]at dy;cases dy
   cases hp:D0 p q
   ·rw[hp]at h
    cases yx:sj p q
    ·
     rw[yx]at h
     simp only[auc]at h
     obtain⟨υ',y,o',su,h⟩:=gh h
     obtain⟨e2,h⟩:=a6 h
     subst e2
     have hap:=su.apart hi hq yx
     have ho':=su.eq.2
     subst ho'
     have Az:=su.bound hi
     have hlen:=hr.length
     have gV:Rd w M υ' ((cs.toList.drop (bC p υ)).take υ'.size) y:=by
      rw[Cw,Ct (by simp only[aud];omega) (by simp only[aud];omega)]
      exact su.rd hi hr
     refine aL (qE ho (hE.ty t _ ht) hu (At.of_block hg _ _) gV) (hn _ _ _ _ _ M ν h (.refl hc.mem) ?_)
     simp only[VR]
     exact V.bF gV
    ·
     rw[yx]at h
     simp only[auc,aua]at h
     obtain⟨z',ups,M',h,eO,_,_,b2,YI,t2,sr,Nb,Cx,DR⟩:=sR hc.mem aS h
     rw[hb]at sr;cases sr
     rw[hg]at Nb;cases Nb
     obtain⟨υ',y,o',su,h⟩:=gh h
     obtain⟨e2,h⟩:=a6 h
     subst e2
     have ho':=su.eq.2
     subst ho'
     have gV:=su.rd hi DR
     refine aL (qE ho (hE.ty t _ ht) hu (At.of_block hg _ _) gV) (hn _ _ _ _ _ M' ν h eO ?_)
     simp only[VR]
     exact V.bF gV
   ·
    rw[hp]at h
    have:=vk hp
    subst this
    simp only[aua]at h
    obtain⟨hpq,hK⟩:=bB h
    have hτ:τ= .slice e0:=(gF hpq).2.symm.trans (gF hq).2
    subst hτ
    have JG:w.cell? ⟨b,bC p υ,none⟩=some (ν j):=by rw[cell_of hg,←auS,Cw,xR dz]
    refine aL (AL ho (hE.ty t _ ht) rfl hu JG) (hn _ _ _ _ _ M ν hK (.refl hc.mem) ?_)
    simp only[VR]
    exact⟨hj,trivial⟩
  ·exact Ef hE hc ho ht h hn
 ·exact Ef hE hc ho ht h hn
end VM
end
section
namespace VM
open Go
variable{P:Program}{E:Env}{o:Oper}{a:Act}{w:World}{M:Nat→Prop}{ν:Nat→Value}{σ:St}{c:Ctx}{α:Type}{r:α}{next:Act→World→Prop}{Q:Exit→Act→World→Prop}
theorem Fz.own{H H1:Nat→Option aQ}(h:Fz H H1){i:Nat}{e:Ty}{l:List e.den}(hi:H i=some (.own e l)):H1 i=some (.own e l)∨H1 i=some (.kt e l):=by
 rcases h i with h'|⟨e',l',h1,h2⟩
 ·exact .inl (by rw[h',hi])
 ·rw[hi]at h1;cases h1;exact .inr h2
theorem KT(hE:EnvTy P E)(hc:Core c σ a.tmps w M ν){t:TypeId}{x y:Operand}(ho:o.op= .store t x y){K:fk α}{τ:Ty}(ht:E.ty t=some τ)
  (h:iE τ (σ.ρ x) (σ.ρ y) σ.H K=some r) (hn:dM c σ a o w M ν K r next):o.wp P a w next Q:=by
 unfold iE at h
 split at h
 ·rename_i id p hx
  obtain⟨z,rd,ups,M',h,eO,hV,hz,gV⟩:=ka (.refl _) hc.mem (hc.ev y) h
  have hv:=hc.ev x
  rw[hx]at hv
  have YJ:=VR.bt eO.bt eO.goes hv
  have tJ:=hE.ty t τ ht
  have DS:=hV.cells.length
  rw[aum]at DS
  split at h
  ·rename_i υ x0 aS
   have kY:=hz.obj aS
   obtain⟨x1,hK,AK,Az,ss⟩:=kE h
   simp only[VR]at YJ
   obtain⟨e1,HV,jO⟩:=YJ
   rw[kY]at HV;cases HV
   simp only[AR]at jO
   obtain⟨hi,b,hb,hu⟩:=jO
   have ja:=eO.mem.iN id _ kY
   simp only[ER]at ja
   obtain⟨b',cs,te,dy,hg,hM,hr⟩:=ja
   rw[hb]at dy;cases dy
   have Az:=Az hi
   have QS:=hr.length
   rw[aum]at QS
   have cw:=jm (P:=P) ho tJ hu hg DS (by omega) hV.cells.ku
   rw[aum]at cw
   have qG:Tr c (bS σ.H ups) w M' ν (bn (bS σ.H ups) id (some (.obj υ x1))) (w.setRow b (dg cs.toList (bC p υ) (a.eval y).cells.toList).toArray) M' ν:=by
    refine Tr.write (e':= .obj υ x1) eO.mem kY trivial trivial rfl (by rw[hb];rfl) hg fun Hp hk vn=> ?_
    simp only[ER]
    refine⟨b,_,te,hb,setRow_heap w b cs _ te _ hg,vn,?_⟩
    exact(ss w M' cs.toList _ hi hr hV.cells).bt hk
   refine mm cw ?_
   refine hn _ _ _ _ _ M' ν hK ?_ (by simp[VR])
   rw[dS]
   have:=eO.trans qG
   unfold dg at this
   rw[aum]at this
   exact this
  ·rename_i e l aS
   split at h
   ·rename_i i q h0
    obtain⟨xh,h⟩:=iO h
    have kY:bS σ.H ups id=some (.own e l):=by rw[gV id xh];exact aS
    obtain⟨y1,hK,AK,Az,ss⟩:=kE h
    simp only[VR]at YJ
    obtain⟨e1,HV,jO⟩:=YJ
    rw[kY]at HV;cases HV
    simp only[AR]at jO
    obtain⟨i',q',hpq,AJ,hi,b,n,cp,hb,hu⟩:=jO
    cases hpq
    have ja:=eO.mem.iN id _ kY
    simp only[ER]at ja
    rcases ja with⟨rfl,_⟩|⟨b',cs,te,cap,dy,hg,hM,MJ,hl,Bk,hs,hr⟩
    ·simp at AJ
    ·rw[hb]at dy;cases dy
     have Az:=Az hi
     have oC:=cQ (s:=e.size) AJ
     have tF:l.length*e.size≤cp*e.size:=ava _ hl
     have cw:=jm (P:=P) ho tJ hu hg DS (by omega) hV.cells.ku
     rw[aum]at cw
     have hri:=hr i AJ
     rw[←gE l i e.zero AJ]at hri
     have nu:=ss w M' _ _ hi hri hV.cells
     have hch:((cs.toList.drop (i*e.size)).take e.size).length=e.size:=hri.length
     have QV:dg cs.toList (i*e.size) (dg ((cs.toList.drop (i*e.size)).take e.size) (bC q e) (a.eval y).cells.toList)=dg cs.toList (i*e.size+bC q e) (a.eval y).cells.toList:=by
      have Qo:=nu.length
      have e1:cs.toList=cs.toList.take (i*e.size)++(((cs.toList.drop (i*e.size)).take e.size)++cs.toList.drop (i*e.size+e.size)):=by
       rw[←avr,auR,auR]
      have dz:(cs.toList.take (i*e.size)).length=i*e.size:=by rw[auu,aum];omega
      conv=>rhs;rw[e1]
      rw[show i*e.size+bC q e=(cs.toList.take (i*e.size)).length+bC q e from by rw[dz],rD,tD (by rw[hch,aum];omega)]
      generalize dg ((cs.toList.drop (i*e.size)).take e.size) (bC q e) (a.eval y).cells.toList=m at Qo ⊢
      unfold dg
      rw[Qo,aur]
     have qG:Tr c (bS σ.H ups) w M' ν (bn (bS σ.H ups) id (some (.own e (List.set l i y1)))) (w.setRow b (dg cs.toList (i*e.size+bC q e) (a.eval y).cells.toList).toArray) M' ν:=by
      refine Tr.write (e':= .own e (List.set l i y1)) eO.mem kY trivial trivial ⟨rfl,by rw[aup]⟩ (by rw[hb];simp[ed];omega) hg fun Hp hk vn=> ?_
      simp only[ER]
      refine .inr ⟨b,_,te,cp,by rw[aup];exact hb,setRow_heap w b cs _ te _ hg,vn,MJ,by rw[aup];exact hl,Bk,?_,?_⟩
      ·rw[←QV,avc,dZ (by rw[nu.length,aum];omega),aum];exact hs
      ·have h9:cs.toList.length=cp*e.size:=by rw[aum,hs]
       have h10:=mj.set (w:=w) (M:=M') (cs:=cs.toList) (l:=l) hr (by rw[h9];exact tF) AJ nu
       rw[QV]at h10
       exact fun j hj=>(h10 j hj).bt hk
     refine mm cw ?_
     refine hn _ _ _ _ _ M' ν hK ?_ (by simp[VR])
     rw[dS]
     have:=eO.trans qG
     unfold dg at this
     rw[aum]at this
     exact this
   ·cases h
  ·cases h
 ·cases h
theorem Fz.dO{H H1:Nat→Option aQ}(h:Fz H H1){i:Nat}{τ:Ty}{x:τ.den}{p:List Step}{j:Nat}(hi:H i=some (.dO τ x p j)):H1 i=some (.dO τ x p j):=by
 rcases h i with h'|⟨e',l',h1,h2⟩
 ·rw[h',hi]
 ·rw[hi]at h1;cases h1
theorem sS{β:Type}{l a:List β}{o:Nat}(hl:o+a.length≤l.length)(i:Nat):(dg l o a)[i]? =if o≤i∧i<o+a.length then a[i-o]? else l[i]? :=by
 unfold dg
 by_cases h1:i<o
 ·rw[aui (by omega),aur,avm (by simp;omega),avi,auh h1]
 ·by_cases h2:i<o+a.length
  ·rw[auh (by omega),avm (by simp;omega),au5 (by simp;omega)]
   simp[avd (show o≤l.length by omega)]
  ·rw[aui (by omega),au5 (by simp;omega)]
   simp only[aug,auu,avd (show o≤l.length by omega),avj]
   congr 1;omega
theorem Eg{β:Type}{l a b:List β}{o o':Nat}(h:o'≤o∧o+a.length≤o'+b.length)(h1:o+a.length≤l.length)(h2:o'+b.length≤l.length):dg (dg l o a) o' b=dg l o' b:=by
 have l1:=dZ (a:=l) (o:=o) (new:=a) h1
 apply awU
 intro i
 rw[sS (by omega),sS (by omega),sS (by omega)]
 by_cases c1:o'≤i∧i<o'+b.length
 ·rw[auh c1,auh c1]
 ·rw[aui c1,aui c1,aui (by omega)]
theorem Bn{β:Type}{l:List β}{o:Nat}{u v:β}(h:o<l.length):dg (dg l o [u]) o [v]=dg l o [v]:=
 Eg (by simp) (by simp;omega) (by simp;omega)
theorem Nc{β:Type}{l a b:List β}{o o':Nat}(h:o+a.length≤o'∨o'+b.length≤o)(h1:o+a.length≤l.length)(h2:o'+b.length≤l.length):dg (dg l o a) o' b=dg (dg l o' b) o a:=by
 have l1:=dZ (a:=l) (o:=o) (new:=a) h1
 have l2:=dZ (a:=l) (o:=o') (new:=b) h2
 apply awU
 intro i
 rw[sS (by omega),sS (by omega),sS (by omega),sS (by omega)]
 by_cases c1:o'≤i∧i<o'+b.length
 ·rw[auh c1,aui (by omega),auh c1]
 ·rw[aui c1]
  by_cases c2:o≤i∧i<o+a.length
  ·rw[auh c2,auh c2]
  ·rw[aui c2,aui c2,aui c1]
theorem Eh{m:(υ:Ty)→υ.den→(υ.den→Option α)→Option α}: ∀{τ:Ty} {x:τ.den} {n:Nat} {k:τ.den→Option α},jj τ x n m k=some r→ ∃υ y o k',xc τ x n υ y o∧m υ y k'=some r:=fun h=>by
 obtain⟨υ,y,o,k',h1,h2,_⟩:=nJ h
 exact⟨υ,y,o,k',h1,h2⟩
theorem yG{υ:Ty}{u:υ.den}: ∀{p:List Step} {τ:Ty} {x:τ.den} {k:τ.den→Option α},qi υ u p τ x k=some r→ ∃y o,Cs p τ x υ y o
 |[],τ,x,k,h=>by
  obtain⟨e,_⟩:=a6 (h:b7 υ τ u k=some r)
  subst e
  exact⟨x,0,.nil x⟩
 | .gA n::p,τ,x,k,h=>by
  obtain⟨υ',y,o,k',hf,hm⟩:=Eh (h:jj τ x n _ k=some r)
  obtain⟨y',o',hp⟩:=yG (k:=k') hm
  exact⟨y',_,.gA hf hp⟩
 | .idx i::p,τ,x,k,h=>by
  cases τ with
  |arr n e=>
   obtain⟨y',o',hp⟩:=yG (p:=p) (τ:=e) (x:=List.getD x i e.zero) (k:=fun z=>k (List.set x i z)) h
   exact⟨y',_,.idx hp⟩
  |_=>simp[qi,xN]at h
theorem Bo: ∀{p q:List Step} {τ e:Ty},sj p q=true→ej q τ (.slice e)=true→bC p τ≤bC q τ∧bC q τ+1≤bC p τ+(AG p τ).size
 |[],q,τ,e,_,hq=>by
  obtain⟨_,_,su⟩:=oB hq τ.zero
  have:=su.bound (gF hq).1
  have h2:=su.eq.2
  have:(Ty.slice e).size=1:=rfl
  simp only[bC,AG]
  omega
 | .gA a::p,.gA b::q,τ,e,hp,hq=>by
  simp only[sj,aus]at hp
  have:=auN hp.1
  subst this
  unfold ej at hq
  split at hq
  ·rename_i c hc
   obtain⟨_,_,hf⟩:=oA hc τ.zero
   have:=hf.eq.1
   subst this
   have:=Bo hp.2 hq
   simp only[bC,AG]
   omega
  ·cases hq
 | .gA _::_,[],_,_,hp,_| .gA _::_,.idx _::_,_,_,hp,_| .idx _::_,_,_,_,hp,_=>by simp[sj]at hp
theorem ER.KU{H:Nat→Option aQ}(hm:Mem c H w M ν){k:Nat}{e:Ty}{l:List e.den}(hk:H k=some (.own e l)): ∃ad cp,ν k= .slice ad l.length cp:=by
 have:=hm.iN k _ hk
 simp only[ER]at this
 rcases this with⟨rfl,a,hv⟩|⟨b,cs,t,cap,hv,_⟩
 ·exact⟨a,0,hv⟩
 ·exact⟨_,cap,hv⟩
theorem yH(hE:EnvTy P E)(hc:Core c σ a.tmps w M ν){t:TypeId}{x y:Operand}(ho:o.op= .store t x y){K:fk α}{τ:Ty}(ht:E.ty t=some τ){id k:Nat}{q:List Step}{e:Ty}{υ:Ty}{z:υ.den}
  (hx:σ.ρ x= .fC id q) (hy:σ.ρ y= .ref k) {en:aQ} (aS:σ.H id=some en) (YK:en.mut) (Bp:en.hO (.dO υ z q k)) (hq:ej q υ (.slice e)=true)
  (jQ: ∃b cs te nH u,ν id= .pointer (some ⟨b,0,none⟩)∧w.heap[b]? =some (.cells cs te (0,0))∧Rd w M υ nH z∧cs.toList=dg nH (bC q υ) [u])
  (h:wk τ id k e q υ z σ.H K=some r) (hn:dM c σ a o w M ν K r next):o.wp P a w next Q:=by
 unfold wk at h
 split at h
 ·rename_i e' l hk
  obtain⟨e1,h1⟩:=dH h
  clear h
  subst e1
  obtain⟨e2,h2⟩:=dH h1
  clear h1
  subst e2
  obtain⟨z',hK,AK,Az,ss⟩:=kE h2
  obtain⟨b,cs,te,nH,u,hb,hg,hr,Cw⟩:=jQ
  have Na:=(gF hq).1
  obtain⟨ad,cp,hνk⟩:=ER.KU hc.mem hk
  have xi:=hc.ev y
  rw[hy]at xi
  simp only[VR]at xi
  have xi:=xi.2
  have Az:=Az Na
  have hlen:=hr.length
  have Ht:(Ty.slice e').size=1:=rfl
  have dz:bC q υ<nH.length:=by omega
  have DS:cs.toList.length=nH.length:=by rw[Cw];exact dZ (by simp;omega)
  have hv:=hc.ev x
  rw[hx]at hv
  simp only[VR]at hv
  obtain⟨e3,he3,jO⟩:=hv
  rw[aS]at he3;cases he3
  have jO:=jO.hO Bp
  simp only[AR]at jO
  obtain⟨_,b',dy,hu⟩:=jO
  rw[hb]at dy;cases dy
  have hyc:(a.eval y).cells.toList=[ν k]:=by rw[xi,hνk];rfl
  have ou:(a.eval y).cells.size=(Ty.slice e').size:=by rw[←aum,hyc];rfl
  have cw:=jm (P:=P) ho (hE.ty t _ ht) hu hg ou (by rw[←aum];omega) (by rw[hyc,hνk];simp[Value.oneCell'])
  have nu:(cs.toList.take (bC q υ)++(a.eval y).cells.toList++cs.toList.drop (bC q υ+(a.eval y).cells.toList.length))=dg nH (bC q υ) [ν k]:=by
   rw[hyc]
   show dg cs.toList (bC q υ) [ν k]=_
   rw[Cw,Bn dz]
  rw[nu]at cw
  have hrz:Rd w M υ (dg nH (bC q υ) [.slice none 0 0]) z':=ss w M nH [.slice none 0 0] Na hr (Rd.zero w M (.slice e'))
  have eO:Tr c σ.H w M ν (bn σ.H id (some (.dO υ z' q k))) (w.setRow b (dg nH (bC q υ) [ν k]).toArray) M ν:=by
   refine Tr.write (e':= .dO υ z' q k) hc.mem aS YK trivial (by cases en<;>simp only[aQ.hO]at Bp ⊢ <;>exact Bp) (by rw[hb];rfl) hg (fun Hp AN vn=> ?_) (fun τ' x' p' j' hl=> ?_)
   ·simp only[ER]
    refine⟨b,_,te,dg nH (bC q υ) [.slice none 0 0],ν k,hb,setRow_heap w b cs _ te _ hg,vn,hrz.bt AN,?_,by rw[hνk];rfl,e',hq⟩
    rw[Bn dz]
   ·cases hl
    refine⟨by rw[hk];simp,b,hb,?_⟩
    rw[cell_of (setRow_heap w b cs _ te _ hg),←auS]
    show(dg nH (bC q υ) [ν k])[bC q υ]? =_
    rw[xR dz]
  exact mm cw (hn _ _ _ _ _ M ν hK eO (by simp[VR]))
 ·cases h
theorem yI(hE:EnvTy P E)(hc:Core c σ a.tmps w M ν){t:TypeId}{x y:Operand}(ho:o.op= .store t x y){K:fk α}{τ:Ty}(ht:E.ty t=some τ)
  (h:gf E τ (σ.ρ x) (σ.ρ y) σ.H K=some r) (hn:dM c σ a o w M ν K r next):o.wp P a w next Q:=by
 have hold:iE τ (σ.ρ x) (σ.ρ y) σ.H K=some r→o.wp P a w next Q:=fun h=>KT hE hc ho ht h hn
 unfold gf at h
 simp only at h
 split at h
 ·rename_i id p hx
  have ns:=hx
  split at h
  ·rename_i υ z aS
   split at h
   ·rename_i q e k oD hy
    cases hp:D0 p q
    ·rw[hp]at h;exact hold h
    ·rw[hp]at h
     simp only[aua]at h
     have:=vk hp
     subst this
     have hq:=oG oD
     have ja:=hc.mem.iN id _ aS
     simp only[ER]at ja
     obtain⟨b,cs,te,hb,hg,hM,hr⟩:=ja
     have dz:bC p υ<cs.toList.length:=by
      obtain⟨_,_,su⟩:=oB hq z
      have:=su.bound (gF hq).1
      have h2:=su.eq.2
      have:=hr.length
      have:(Ty.slice e).size=1:=rfl
      omega
     refine yH hE hc ho ht hx hy aS trivial rfl hq ⟨b,cs,te,cs.toList,cs.toList[bC p υ],hb,hg,hr,?_⟩ h hn
     exact(D9 (auf dz)).symm
   ·exact hold h
  ·rename_i υ z q j aS
   obtain⟨b,cs,te,nH,e0,hb,hg,hM,hr,Cw,h1,hq,dz,hj⟩:=hc.mem.linked aS
   have tK:iC true (σ.ρ y) σ.H τ (fun y rd ups=>qi τ y p υ z fun z=>K .any (id::rd) (ups++[(id,some (cond (sj p q) (.obj υ z) (.dO υ z q j)))]))=some r→o.wp P a w next Q:=by
    intro h
    obtain⟨u,rd,ups,M',h,eO,hV,hz,gV⟩:=ka (.refl _) hc.mem (hc.ev y) h
    have kY:=hz.dO aS
    have hv:=hc.ev x
    rw[hx]at hv
    have YJ:=VR.bt eO.bt eO.goes hv
    simp only[VR]at YJ
    obtain⟨e1,HV,jO⟩:=YJ
    rw[kY]at HV;cases HV
    simp only[AR]at jO
    obtain⟨hi,b1,jN,hu⟩:=jO
    rw[hb]at jN;cases jN
    obtain⟨b2,YI,te2,cs3,e3,sr,Nb,Cx,DR,QW,h12,hq2,adK,hj2⟩:=eO.mem.linked kY
    rw[hb]at sr;cases sr
    rw[hg]at Nb;cases Nb
    obtain⟨z',hK,AK,Az,ss⟩:=kE h
    have Az:=Az hi
    have QS:=DR.length
    have DS:cs.toList.length=cs3.length:=by rw[QW];exact dZ (by simp;omega)
    have hcy:=hV.cells.length
    rw[aum]at hcy
    have ap3:(a.eval y).cells.toList.length=τ.size:=by rw[aum];exact hcy
    have cw:=jm (P:=P) ho (hE.ty t _ ht) hu hg hcy (by rw[←aum];omega) hV.cells.ku
    have Nd:cs.toList.take (bC p υ)++(a.eval y).cells.toList++cs.toList.drop (bC p υ+(a.eval y).cells.toList.length)=dg cs.toList (bC p υ) (a.eval y).cells.toList:=rfl
    rw[Nd]at cw
    have hzr:=ss w M' cs3 _ hi DR hV.cells
    have fin: ∀e',e'.mut→aQ.hO (.dO υ z q j) e'→K .any (id::rd) (ups++[(id,some e')])=some r→(∀Hp,df w M' (w.setRow b (dg cs.toList (bC p υ) (a.eval y).cells.toList).toArray) Hp→Hp b→ER (w.setRow b (dg cs.toList (bC p υ) (a.eval y).cells.toList).toArray) Hp (ν id) e')→
      (∀τ' x' p' j',e'= .dO τ' x' p' j'→(bS σ.H ups) j'≠none∧ ∃b',ν id= .pointer (some ⟨b',0,none⟩)∧(w.setRow b (dg cs.toList (bC p υ) (a.eval y).cells.toList).toArray).cell? ⟨b',bC p' τ',none⟩=some (ν j'))→o.wp P a w next Q:=by
     intro e' gG DQ hK KO oD
     have qG:=Tr.write (e':=e') eO.mem kY trivial gG DQ (by rw[hb];rfl) hg KO oD
     refine mm cw (hn _ _ _ _ _ M' ν hK ?_ (by simp[VR]))
     rw[dS]
     exact eO.trans qG
    cases yx:sj p q
    ·rw[yx]at hK
     simp only[auc]at hK
     obtain⟨yy,oo,su⟩: ∃y o,Cs p υ z τ y o:=yG h
     have hap:=su.apart hi hq yx
     have hoo:=su.eq.2
     subst hoo
     have Xu:dg cs.toList (bC p υ) (a.eval y).cells.toList=dg (dg cs3 (bC p υ) (a.eval y).cells.toList) (bC q υ) [ν j]:=by
      rw[QW]
      exact Nc (by simp only[aud];omega) (by simp only[aud];omega) (by omega)
     have Qo:=dZ (a:=cs3) (o:=bC p υ) (new:=(a.eval y).cells.toList) (by omega)
     refine fin (.dO υ z' q j) trivial rfl hK (fun Hp hk vn=> ?_) (fun τ' x' p' j' hl=> ?_)
     ·simp only[ER]
      exact⟨b,_,te,_,ν j,hb,setRow_heap w b cs _ te _ hg,vn,hzr.bt hk,Xu,h1,e0,hq⟩
     ·cases hl
      refine⟨hj2,b,hb,?_⟩
      rw[cell_of (setRow_heap w b cs _ te _ hg),←auS]
      show(dg cs.toList (bC p υ) (a.eval y).cells.toList)[bC q υ]? =_
      rw[Xu,xR (by omega)]
    ·rw[yx]at hK
     simp only[aua]at hK
     refine fin (.obj υ z') trivial rfl hK (fun Hp hk vn=> ?_) (fun τ' x' p' j' hl=>by cases hl)
     simp only[ER]
     refine⟨b,_,te,hb,setRow_heap w b cs _ te _ hg,vn,?_⟩
     show Rd _ _ υ (dg cs.toList (bC p υ) (a.eval y).cells.toList) z'
     have jP:=Bo yx hq
     rw[AK]at jP
     have ho:dg cs.toList (bC p υ) (a.eval y).cells.toList=dg cs3 (bC p υ) (a.eval y).cells.toList:=by
      rw[QW]
      exact Eg (by simp only[aud];omega) (by simp only[aud];omega) (by omega)
     have h9:=hzr.bt hk
     rw[←ho]at h9
     exact h9
   split at h
   ·rename_i q' e k oD hy
    cases hp:(D0 p q&&D0 q q')
    ·rw[hp]at h;exact tK h
    ·rw[hp]at h
     simp only[aua]at h
     rw[aus]at hp
     have:=vk hp.1
     subst this
     have:=vk hp.2
     subst this
     refine yH hE hc ho ht hx hy aS trivial rfl (oG oD) ⟨b,cs,te,nH,ν j,hb,hg,hr,Cw⟩ h hn
   ·exact tK h
  ·exact hold h
 ·exact hold h
theorem KV(hE:EnvTy P E)(hc:Core c σ a.tmps w M ν){t:TypeId}{x y:Operand}(ho:o.op= .store t x y){K:fk α}{τ:Ty}(ht:E.ty t=some τ)
  (h:n5 E τ (σ.ρ x) (σ.ρ y) σ.H K=some r) (hn:dM c σ a o w M ν K r next):o.wp P a w next Q:=by
 unfold n5 at h
 split at h
 ·rename_i id υ z n hx hy
  split at h
  ·rename_i m e oD
   cases yF:Nat.beq m n
   ·rw[yF]at h
    simp only[auc]at h
    exact yI hE hc ho ht h hn
   ·rw[yF]at h
    simp only[aua]at h
    have yF:=auN yF
    subst yF
    obtain⟨e1,h1⟩:=dH h
    clear h
    subst e1
    have hq:=oG oD
    have xi:=hc.ev y
    rw[hy]at xi
    simp only[VR]at xi
    obtain⟨hV,cs,ad,hva,hz⟩:=xi
    have hcy:(a.eval y).cells=cs:=by rw[hva];rfl
    obtain⟨en,aS,YK,hK⟩: ∃en:aQ,σ.H id=some en∧(∃z0,en= .obj τ z0∨ ∃q j,en= .dO τ z0 q j)∧σ.H (id+2)=none∧K .any [id,id+2] [(id,some (.dO τ z [.gA m] (id+2))),(id+2,some (.own e []))]=some r:=by
     unfold jl at h1
     split at h1
     ·rename_i υ z0 aS
      obtain⟨e2,h2⟩:=dH h1
      clear h1
      subst e2
      obtain⟨h3,h4⟩:=hZ h2
      exact⟨_,aS,⟨z0,.inl rfl⟩,h3,h4⟩
     ·rename_i υ z0 q j aS
      obtain⟨e2,h2⟩:=dH h1
      clear h1
      subst e2
      obtain⟨h3,h4⟩:=hZ h2
      exact⟨_,aS,⟨z0,.inr ⟨q,j,rfl⟩⟩,h3,h4⟩
     ·cases h1
     ·cases h1
     ·cases h1
    obtain⟨hk,hK⟩:=hK
    have ajg:en.mut:=by rcases YK with⟨z0,rfl|⟨q,j,rfl⟩⟩<;>trivial
    have Bp:en.hO (.obj τ z):=by rcases YK with⟨z0,rfl|⟨q,j,rfl⟩⟩<;>rfl
    obtain⟨b,nH,te,hb,hg,ou⟩: ∃b nH te,ν id= .pointer (some ⟨b,0,none⟩)∧w.heap[b]? =some (.cells nH te (0,0))∧nH.toList.length=τ.size:=by
     rcases YK with⟨z0,rfl|⟨q,j,rfl⟩⟩
     ·have:=hc.mem.iN id _ aS
      simp only[ER]at this
      obtain⟨b,nH,te,h2,h3,_,h5⟩:=this
      exact⟨b,nH,te,h2,h3,h5.length⟩
     ·obtain⟨b,nH,te,tv,_,h2,h3,_,h5,h6,_,_,h7,_⟩:=hc.mem.linked aS
      refine⟨b,nH,te,h2,h3,?_⟩
      rw[h6,dZ (by simp only[aud];omega),h5.length]
    have hv:=hc.ev x
    rw[hx]at hv
    simp only[VR]at hv
    obtain⟨e3,he3,jO⟩:=hv
    rw[aS]at he3;cases he3
    have jO:=jO.hO Bp
    simp only[AR]at jO
    obtain⟨_,b',dy,hu⟩:=jO
    rw[hb]at dy;cases dy
    have DS:=hV.cells.length
    have cw:=jm (P:=P) ho (hE.ty t _ ht) hu hg (by rw[←aum];exact DS) (by rw[←aum,ou];simp[bC]) hV.cells.ku
    have Nd:nH.toList.take (bC [] τ)++(a.eval y).cells.toList++nH.toList.drop (bC [] τ+(a.eval y).cells.toList.length)=(a.eval y).cells.toList:=by
     simp only[bC,avD,auK,avk]
     rw[au0 (by omega),auJ]
    rw[Nd]at cw
    have ss:=setRow_heap w b nH (a.eval y).cells.toList.toArray te _ hg
    have eO:=Tr.write (e':= .obj τ z) (new:=(a.eval y).cells.toList.toArray) hc.mem aS ajg trivial Bp (by rw[hb];rfl) hg (fun Hp AN vn=>by
     simp only[ER]
     exact⟨b,_,te,hb,ss,vn,hV.cells.bt AN⟩)
    have fL:id+2≠id:=by omega
    have qG:=Tr.M8 eO.mem (id:=id) (k:=id+2) (by rw[al _ _ fL];exact hk) (ak _ _ _) hb ss hq (ad:=ad) (by rw[hcy];simpa [bC]using hz)
    have e1:bS (bn σ.H id (some (.obj τ z))) [(id,some (.dO τ z [.gA m] (id+2))),(id+2,some (.own e []))]=bS σ.H [(id,some (.dO τ z [.gA m] (id+2))),(id+2,some (.own e []))]:=by
     show bn (bn (bn σ.H id _) id _) (id+2) _=bn (bn σ.H id _) (id+2) _
     rw[sQ]
    rw[e1]at qG
    exact mm cw (hn _ _ _ _ _ _ _ hK (eO.trans qG) (by simp[VR]))
  ·exact yI hE hc ho ht h hn
 ·exact yI hE hc ho ht h hn
end VM
end
section
namespace VM
open Go
variable{P:Program}{E:Env}{o:Oper}{a:Act}{w:World}{M:Nat→Prop}{ν:Nat→Value}{σ:St}{c:Ctx}{α:Type}{r:α}{next:Act→World→Prop}{Q:Exit→Act→World→Prop}
theorem nb{n:Nat}(h:Nat.beq n 0=false):n≠0:=by rw[←av4,axA]at h;exact h
theorem At.sub{b off:Nat}{cs:List Value}(h:At w b off cs)(o n:Nat):At w b (off+o) ((cs.drop o).take n):=by
 intro j v hj
 rw[avi]at hj
 split at hj
 ·rw[avj]at hj
  have:=h _ v hj
  rwa [←awe]at this
 ·cases hj
def qH:aQ→List Step→Option Ty
 | .obj τ _,p=>some (AG p τ)
 | .dO τ _ _ _,p=>some (AG p τ)
 | .own e _,.idx _::p| .kt e _,.idx _::p=>some (AG p e)
 |_,_=>none
theorem yJ{id:Nat}{p:List Step}{H:Nat→Option aQ}{k:Ty→Option α}(h:jl id p H k=some r): ∃e υ,H id=some e∧qH e p=some υ∧k υ=some r:=by
 unfold jl at h
 split at h
 ·rename_i τ x aS
  obtain⟨υ,y,o,hp,hk⟩:=gh h
  exact⟨_,υ,aS,by simp[qH,hp.eq.1],hk⟩
 ·rename_i τ x _ _ aS
  obtain⟨υ,y,o,hp,hk⟩:=gh h
  exact⟨_,υ,aS,by simp[qH,hp.eq.1],hk⟩
 ·rename_i e l aS
  split at h
  ·obtain⟨υ,y,o,hp,hk⟩:=gh h
   exact⟨_,υ,aS,by simp[qH,hp.eq.1],hk⟩
  ·cases h
 ·rename_i e l aS
  split at h
  ·obtain⟨υ,y,o,hp,hk⟩:=gh h
   exact⟨_,υ,aS,by simp[qH,hp.eq.1],hk⟩
  ·cases h
 ·cases h
theorem AR.step{v:Value}{p:List Step}{u:Value}{e:aQ}{υ:Ty}(h:AR v p u e)(ht:qH e p=some υ)(s:Step)(hs:sm [s] υ):
  ∃b off,u= .pointer (some ⟨b,off,none⟩)∧AR v (p++[s]) (.pointer (some ⟨b,off+bC [s] υ,none⟩)) e:=by
 cases e with
 |obj τ x=>
  simp only[qH,avb]at ht
  simp only[AR]at h ⊢
  obtain⟨hi,b,hb,rfl⟩:=h
  subst ht
  exact⟨b,_,rfl,(nG p [s] τ).2 ⟨hi,hs⟩,b,hb,by rw[nF]⟩
 |dO τ x _ _=>
  simp only[qH,avb]at ht
  simp only[AR]at h ⊢
  obtain⟨hi,b,hb,rfl⟩:=h
  subst ht
  exact⟨b,_,rfl,(nG p [s] τ).2 ⟨hi,hs⟩,b,hb,by rw[nF]⟩
 |own e l=>
  simp only[AR]at h ⊢
  obtain⟨i,q,rfl,AJ,hi,b,n,cp,hb,rfl⟩:=h
  simp only[qH,avb]at ht
  subst ht
  exact⟨b,_,rfl,i,q++[s],rfl,AJ,(nG q [s] e).2 ⟨hi,hs⟩,b,n,cp,hb,by rw[nF,awe]⟩
 |kt e l=>
  simp only[AR]at h ⊢
  obtain⟨i,q,rfl,AJ,hi,b,n,cp,hb,rfl⟩:=h
  simp only[qH,avb]at ht
  subst ht
  exact⟨b,_,rfl,i,q++[s],rfl,AJ,(nG q [s] e).2 ⟨hi,hs⟩,b,n,cp,hb,by rw[nF,awe]⟩
 |gone=>simp[qH]at ht
theorem vo(hE:EnvTy P E)(hc:Core c σ a.tmps w M ν){t:TypeId}{x:Operand}{n:Nat}(ho:o.op= .fieldAddr t x n){K:fk α}{τ:Ty}(ht:E.ty t=some τ){id:Nat}{p:List Step}(hx:σ.ρ x= .fC id p)
  (h:jl id p σ.H (fun υ=>jk υ τ (sk τ τ.zero n fun υ' _=>cond (Nat.beq υ'.size 0) none (K (.fC id (p++[.gA n])) [id] [])))=some r) (hn:dM c σ a o w M ν K r next):o.wp P a w next Q:=by
 obtain⟨e,υ,aS,het,h⟩:=yJ h
 obtain⟨YL,h_⟩:=dH h
 clear h
 subst YL
 have h:=h_
 clear h_
 obtain⟨υ',y,of,hf,h⟩:=oz h
 obtain⟨hz,h⟩:=iO h
 have hv:=hc.ev x
 rw[hx]at hv
 simp only[VR]at hv
 obtain⟨e',sF,jO⟩:=hv
 rw[aS]at sF;cases sF
 obtain⟨b,off,hu,YM⟩:=jO.step het (.gA n) trivial
 obtain⟨fs,f,Hu,hff,hfo,Nf⟩:=(hE.ty t υ ht).gA hf
 obtain⟨v,cw,hvv⟩:=oF (P:=P) ho (w:=w) Hu hff Nf (nb hz) hu
 refine aL cw (hn _ _ _ _ _ M ν h (.refl hc.mem) ?_)
 simp only[VR]
 refine⟨e,aS,?_⟩
 rw[hvv,hfo,hf.eq.2]
 simpa [bC]using YM
theorem tL(hE:EnvTy P E)(hc:Core c σ a.tmps w M ν){t:TypeId}{x:Operand}{n:Nat}(ho:o.op= .fieldAddr t x n){K:fk α}{τ:Ty}(ht:E.ty t=some τ){υ:Ty}{z:υ.den}(hx:σ.ρ x= .mc υ z)
  (h:jk υ τ (sk υ z n fun υ y=>cond (Nat.beq υ.size 0) none (K (.mc υ y) [] []))=some r) (hn:dM c σ a o w M ν K r next):o.wp P a w next Q:=by
 obtain⟨he,h1⟩:=dH h
 subst he
 obtain⟨υ',y,of,hf,h⟩:=oz h1
 obtain⟨hz,h⟩:=iO h
 have hv:=hc.ev x
 rw[hx]at hv
 simp only[VR]at hv
 obtain⟨b,off,hu,hb,hM,cs,lC,hr⟩:=hv
 obtain⟨fs,f,Hu,hff,hfo,Nf⟩:=(hE.ty t υ ht).gA hf
 obtain⟨v,cw,hvv⟩:=oF (P:=P) ho (w:=w) Hu hff Nf (nb hz) hu
 refine aL cw (hn _ _ _ _ _ M ν h (.refl hc.mem) ?_)
 simp only[VR]
 exact⟨b,off+f.offset,hvv,hb,hM,_,by rw[hfo];exact lC.sub of υ'.size,hf.rd hr⟩
theorem V.agg{τ:Ty}(ha:τ.isAgg=true){v:Value}{x:τ.den}(h:V w M τ v x): ∃cs,v= .agg cs∧Rd w M τ cs.toList x:=by
 unfold V at h;rw[auh ha]at h;exact h
theorem xc.agg{τ:Ty}{x:τ.den}{n:Nat}{υ:Ty}{y:υ.den}{o:Nat}(h:xc τ x n υ y o):τ.isAgg=true:=by cases h<;>rfl
theorem Ng(hE:EnvTy P E)(hc:Core c σ a.tmps w M ν){t:TypeId}{x:Operand}{n:Nat}(ho:o.op= .field t x n){K:fk α}{τ:Ty}(ht:E.ty t=some τ){υ:Ty}{z:υ.den}(hx:σ.ρ x= .val υ z)
  (h:jk υ τ (sk υ z n fun υ y=>K (.val υ y) [] [])=some r) (hn:dM c σ a o w M ν K r next):o.wp P a w next Q:=by
 obtain⟨he,h1⟩:=dH h
 subst he
 obtain⟨υ',y,of,hf,h⟩:=oz h1
 have hv:=hc.ev x
 rw[hx]at hv
 simp only[VR]at hv
 obtain⟨cs,hu,hr⟩:=hv.agg hf.agg
 obtain⟨fs,f,Hu,hff,hfo,Nf⟩:=(hE.ty t υ ht).gA hf
 have dT:=hf.rd hr
 refine aL (Cv ho Hu hff Nf hu (by rw[hfo];exact dT)) (hn _ _ _ _ _ M ν h (.refl hc.mem) ?_)
 simp only[VR]
 rw[hfo]
 exact V.bF dT
theorem Cy(hE:EnvTy P E)(hc:Core c σ a.tmps w M ν){t:TypeId}{x i:Operand}(ho:o.op= .indexAddr t x i){K:fk α}{τ:Ty}(ht:E.ty t=some τ)
  (h:dY τ (σ.ρ x) (σ.ρ i) σ.H K=some r) (hn:dM c σ a o w M ν K r next):o.wp P a w next Q:=by
 unfold dY at h
 obtain⟨k,n,hi,h2⟩:=jn h
 clear h
 have h:=h2
 clear h2
 have JH:=hc.ev i
 rw[hi]at JH
 have JH:=JH.int
 have hv:=hc.ev x
 have tJ:=hE.ty t τ ht
 split at h
 ·
  rename_i e
  obtain⟨e',Hu,hle⟩:=tJ.slice
  split at h
  ·rename_i υ l hx
   obtain⟨e1,h⟩:=a6 h
   subst e1
   obtain⟨jP,h⟩:=bB h
   obtain⟨h0,h1⟩:=o8 jP
   have h1:n<(List.length l:Int):=h1
   rw[hx]at hv
   simp only[VR]at hv
   have hv:=V.slice.1 hv
   simp only[Rd,auZ,avB]at hv
   obtain⟨ad,cap,hu,adN,hr⟩:=hv
   obtain⟨b,off,rfl,hb,hM,cs,lC,gV⟩:=hr n.toNat (by omega)
   refine aL (g5 ho Hu hle hu JH h0 h1) (hn _ _ _ _ _ M ν h (.refl hc.mem) ?_)
   simp only[VR]
   refine⟨b,_,rfl,hb,hM,cs,lC,?_⟩
   have:Rd w M e cs (List.getD l n.toNat e.zero):=by rw[gE l n.toNat e.zero (by omega)];exact gV
   exact this
  ·rename_i id hx
   rw[hx]at hv
   simp only[VR]at hv
   obtain⟨_,hu⟩:=hv
   split at h
   ·rename_i e2 l aS
    obtain⟨YL,h_⟩:=dH h
    clear h
    subst YL
    have h:=h_
    clear h_
    obtain⟨jP,h⟩:=bB h
    obtain⟨h0,h1⟩:=o8 jP
    have ja:=hc.mem.iN id _ aS
    simp only[ER]at ja
    rcases ja with⟨rfl,_⟩|⟨b,cs,te,cap,hb,hg,hM,MJ,hl,Bk,hs,hr⟩
    ·simp at h1;omega
    ·rw[hb]at hu
     refine aL (g5 ho Hu hle hu JH h0 h1) (hn _ _ _ _ _ M ν h (.refl hc.mem) ?_)
     simp only[VR]
     refine⟨_,aS,?_⟩
     simp only[AR]
     exact⟨n.toNat,[],rfl,by omega,trivial,b,_,_,hb,by simp[bC]⟩
   ·rename_i e2 l aS
    obtain⟨YL,h_⟩:=dH h
    clear h
    subst YL
    have h:=h_
    clear h_
    obtain⟨jP,h⟩:=bB h
    obtain⟨h0,h1⟩:=o8 jP
    have ja:=hc.mem.iN id _ aS
    simp only[ER]at ja
    obtain⟨gV,hhd⟩:=ja
    simp only[Rd,auZ,avB]at gV
    obtain⟨ad,cap,hb,adN,hr⟩:=gV
    rcases hhd with⟨rfl,_⟩|⟨b,n2,c2,sr⟩
    ·simp at h1;omega
    ·rw[hb]at sr;cases sr
     rw[hb]at hu
     refine aL (g5 ho Hu hle hu JH h0 h1) (hn _ _ _ _ _ M ν h (.refl hc.mem) ?_)
     simp only[VR]
     refine⟨_,aS,?_⟩
     simp only[AR]
     exact⟨n.toNat,[],rfl,by omega,trivial,b,_,_,hb,by simp[bC]⟩
   ·cases h
  ·cases h
 ·
  rename_i len e
  obtain⟨e',Hu,hle⟩:=tJ.arr
  split at h
  ·rename_i id p hx
   obtain⟨en,υ,aS,het,h⟩:=yJ h
   obtain⟨YL,h_⟩:=dH h
   clear h
   subst YL
   have h:=h_
   clear h_
   obtain⟨jP,h⟩:=bB h
   obtain⟨h0,h1⟩:=o8 jP
   rw[hx]at hv
   simp only[VR]at hv
   obtain⟨en',sF,jO⟩:=hv
   rw[aS]at sF;cases sF
   obtain⟨b,off,hu,YM⟩:=jO.step het (.idx n.toNat) ⟨⟨len,e,rfl,by omega⟩,trivial⟩
   refine aL (nI ho Hu hle hu JH h0 h1) (hn _ _ _ _ _ M ν h (.refl hc.mem) ?_)
   simp only[VR]
   refine⟨en,aS,?_⟩
   simpa [bC,YA]using YM
  ·rename_i υ l hx
   obtain⟨e1,h⟩:=a6 h
   subst e1
   obtain⟨jP,h⟩:=bB h
   obtain⟨h0,h1⟩:=o8 jP
   rw[hx]at hv
   simp only[VR]at hv
   obtain⟨b,off,hu,hb,hM,cs,lC,hr⟩:=hv
   refine aL (nI ho Hu hle hu JH h0 h1) (hn _ _ _ _ _ M ν h (.refl hc.mem) ?_)
   simp only[VR]
   exact⟨b,_,rfl,hb,hM,_,lC.sub _ e.size,hr.idx (by omega)⟩
  ·cases h
 ·cases h
theorem xj(hc:Core c σ a.tmps w M ν){x:Operand}(ho:o.op= .nilCheck x){K:fk α}{id:Nat}{p:List Step}(hx:σ.ρ x= .fC id p)
  (h:K (.fC id p) [] []=some r) (hn:dM c σ a o w M ν K r next):o.wp P a w next Q:=by
 have hv:=hc.ev x
 have Nh:=hv
 rw[hx]at hv
 simp only[VR]at hv
 obtain⟨e,he,jO⟩:=hv
 obtain⟨ad,hu⟩:=jO.ptr
 refine aL (p8 ho hu) (hn _ _ _ _ _ M ν h (.refl hc.mem) ?_)
 rw[←hu,←hx];exact Nh
theorem vp(hc:Core c σ a.tmps w M ν){x:Operand}(ho:o.op= .nilCheck x){K:fk α}{τ:Ty}{z:τ.den}(hx:σ.ρ x= .mc τ z)
  (h:K (.mc τ z) [] []=some r) (hn:dM c σ a o w M ν K r next):o.wp P a w next Q:=by
 have hv:=hc.ev x
 have Nh:=hv
 rw[hx]at hv
 simp only[VR]at hv
 obtain⟨b,off,hu,_⟩:=hv
 refine aL (p8 ho hu) (hn _ _ _ _ _ M ν h (.refl hc.mem) ?_)
 rw[←hu,←hx];exact Nh
theorem fE.get{H:Nat→Option aQ}: ∀{lB:List aY} {vs:List Value},fE w M H ν lB vs→ ∀{i:Nat} {x:aY},lB[i]? =some x→ ∃v,vs[i]? =some v∧VR w M H ν x v
 |[],_,_,i,x,hx=>by simp at hx
 |y::lB,[],h,_,_,_=>by simp[fE]at h
 |y::lB,v::vs,h,0,x,hx=>by
  simp only[fE]at h
  simp at hx;subst hx
  exact⟨v,rfl,h.1⟩
 |y::lB,v::vs,h,i+1,x,hx=>by
  simp only[fE]at h
  exact fE.get h.2 (by simpa using hx)
theorem HW(hc:Core c σ a.tmps w M ν){x:Operand}{i:Nat}(ho:o.op= .extract x i){K:fk α}{vs:List aY}{v:aY}(hx:σ.ρ x= .tup vs)(hi:vs[i]? =some v)
  (h:K v [] []=some r) (hn:dM c σ a o w M ν K r next):o.wp P a w next Q:=by
 have hv:=hc.ev x
 rw[hx]at hv
 simp only[VR]at hv
 obtain⟨us,hu,QX⟩:=hv
 obtain⟨u,hui,hvu⟩:=QX.get hi
 exact aL (yC ho hu hui) (hn _ _ _ _ _ M ν h (.refl hc.mem) hvu)
theorem Core.evs(hc:Core c σ a.tmps w M ν): ∀xs:List Operand,fE w M σ.H ν (xs.map σ.ρ) (xs.map a.eval)
 |[]=>by simp[fE]
 |x::xs=>by simp only[auI,fE];exact⟨hc.ev x,hc.evs xs⟩
theorem qI: ∀{lB:List aY} {vs:List Value} {H:Nat→Option aQ} {M:Nat→Prop} {K:List aY→List Nat→fj→Option α},Mem c H w M ν→fE w M H ν lB vs→qA H lB K=some r→
  ∃cs rd ups M',K cs rd ups=some r∧Tr c H w M ν (bS H ups) w M' ν∧fE w M' (bS H ups) ν cs vs
 |[],vs,H,M,K,hm,hv,h=>⟨[],[],[],M,h,.refl hm,hv⟩
 |x::xs,[],H,M,K,hm,hv,h=>by simp[fE]at hv
 |x::xs,v::vs,H,M,K,hm,hv,h=>by
  simp only[fE]at hv
  unfold qA at h
  split at h
  ·rename_i id
   split at h
   ·rename_i τ z aS
    obtain⟨M1,b,ht,hb,dz,hM,nH,lC,gV⟩:=Tr.fix hm aS
    obtain⟨cs,rd,ups,M2,hK,Qq,QY⟩:=qI ht.mem (fE.bt ht.bt ht.goes hv.2) h
    refine⟨_,_,_,M2,hK,ht.trans Qq,?_⟩
    have h1:VR w M1 (bn H id (some .gone)) ν (.mc τ z) v:=by
     have Ei:=hv.1
     simp only[VR]at Ei ⊢
     obtain⟨e,he,jO⟩:=Ei
     rw[aS]at he;cases he
     simp only[AR]at jO
     obtain⟨_,b',dy,Ei⟩:=jO
     rw[hb]at dy;cases dy
     exact⟨b,0,Ei,dz,hM,nH,lC,gV⟩
    simp only[fE]
    exact⟨VR.bt Qq.bt Qq.goes h1,QY⟩
   ·cases h
  ·obtain⟨cs,rd,ups,M2,hK,Qq,QY⟩:=qI hm hv.2 h
   refine⟨_,_,_,M2,hK,Qq,?_⟩
   simp only[fE]
   exact⟨VR.bt Qq.bt Qq.goes hv.1,QY⟩
theorem Ej(hc:Core c σ a.tmps w M ν){f:FuncId}{first caps:Array Operand}(ho:o.op= .makeFunc (.func f) first caps){K:fk α}
  (h:cond first.isEmpty (qA σ.H (caps.toList.map σ.ρ) fun cs rd ups=>K (.D1 f cs) rd ups) none=some r) (hn:dM c σ a o w M ν K r next):o.wp P a w next Q:=by
 obtain⟨hf,h⟩:=bB h
 obtain⟨cs,rd,ups,M',hK,ht,hv⟩:=qI hc.mem (hc.evs _) h
 refine aL (xf ho (by simpa using hf)) (hn _ _ _ _ _ M' ν hK ht ?_)
 simp only[VR]
 exact⟨caps.toList.map a.eval,by congr 1;apply av7;simp,hv⟩
theorem HX(hE:EnvTy P E)(hc:Core c σ a.tmps w M ν){s d:TypeId}{x:Operand}(ho:o.op= .convert s d x){K:fk α}{τ:Ty}{k:IntKind}(hs:E.ty s=some τ)(hd:E.ty d=some (.int k))
  (h:qx (σ.ρ x) (fun _ n=>K (.val (.int k) (W k n)) [] [])=some r) (hn:dM c σ a o w M ν K r next):o.wp P a w next Q:=by
 obtain⟨k',n,hx,h⟩:=jn h
 have hv:=hc.ev x
 rw[hx]at hv
 refine aL (yD ho (hE.ty s τ hs).isSome (hE.ty d _ hd).int hv.int) (hn _ _ _ _ _ M ν h (.refl hc.mem) ?_)
 rw[w9];exact .mkInt k _
end VM
end
section
namespace VM
open Go
variable{P:Program}{E:Env}{o:Oper}{a:Act}{w:World}{M:Nat→Prop}{ν:Nat→Value}{σ:St}{c:Ctx}{α:Type}{r:α}{next:Act→World→Prop}{Q:Exit→Act→World→Prop}
theorem KW{b:BinOp}{k k':IntKind}{x y:Int}{t:TypeId}{K:aY→Option α}(h:QN b k x y K=some r):
  ∃z,K (.val (.int k) z)=some r∧(binOp b t (.int k x) (.int k' y)).run P w= .ok (.int k z) w:=by
 unfold QN at h
 split at h
 ·obtain⟨h0,h⟩:=iO h
  rw[ma]at h0
  have h0: ¬y<0:=by simpa using h0
  refine⟨_,h,?_⟩
  rw[w9,MZ]
  simp[binOp,Op.shift,h0]
 ·obtain⟨h0,h⟩:=iO h
  rw[ma]at h0
  have h0: ¬y<0:=by simpa using h0
  refine⟨_,h,?_⟩
  rw[HR]
  simp[binOp,Op.shift,h0]
 ·cases h
theorem Cz{b:BinOp}{k:IntKind}{x y:Int}{t:TypeId}{K:aY→Option α}(h:o4 b k x y K=some r):
  ∃v u,K v=some r∧(binOp b t (.int k x) (.int k y)).run P w= .ok u w∧ ∀H,VR w M H ν v u:=by
 unfold o4 at h
 split at h
 ·exact⟨_,_,h,by simp[binOp,Op.intArith,w9],fun H=> .mkInt _ _⟩
 ·exact⟨_,_,h,by simp[binOp,Op.intArith,w9],fun H=> .mkInt _ _⟩
 ·exact⟨_,_,h,by simp[binOp,Op.intArith,w9],fun H=> .mkInt _ _⟩
 ·obtain⟨h0,h⟩:=iO h
  rw[fK]at h0
  have h0: ¬y=0:=by simpa using h0
  exact⟨_,_,h,by simp[binOp,Op.intDiv,w9,Cl,h0],fun H=> .mkInt _ _⟩
 ·obtain⟨h0,h⟩:=iO h
  rw[fK]at h0
  have h0: ¬y=0:=by simpa using h0
  exact⟨_,_,h,by simp[binOp,Op.intDiv,MY,h0],fun H=> .mkInt _ _⟩
 ·exact⟨_,_,h,by simp[binOp,Op.intBits,o0],fun H=> .mkInt _ _⟩
 ·exact⟨_,_,h,by simp[binOp,Op.intBits,o0],fun H=> .mkInt _ _⟩
 ·exact⟨_,_,h,by simp[binOp,Op.intBits,o0],fun H=> .mkInt _ _⟩
 ·exact⟨_,_,h,by simp[binOp,Op.intBits,o0],fun H=> .mkInt _ _⟩
 ·exact⟨_,.bool (decide (x=y)),h,by simp[binOp,Op.intCmp];rfl,fun H=>by rw[fK];exact .o7 _⟩
 ·exact⟨_,.bool (!decide (x=y)),h,by simp[binOp,Op.intCmp];rfl,fun H=>by rw[fK];exact .o7 _⟩
 ·exact⟨_,_,h,by simp[binOp,Op.intCmp,ma],fun H=> .o7 _⟩
 ·exact⟨_,_,h,by simp[binOp,Op.intCmp,jY],fun H=> .o7 _⟩
 ·exact⟨_,_,h,by simp[binOp,Op.intCmp,ma],fun H=> .o7 _⟩
 ·exact⟨_,_,h,by simp[binOp,Op.intCmp,jY],fun H=> .o7 _⟩
 ·cases h
theorem KX{t:Option Ty}{op:BinOp}{τ:Ty}{x:τ.den}{υ:Ty}{y:υ.den}{K:aY→Option α}(h:yw t op τ x υ y K=some r):
  (∃(k k':IntKind) (m n:Int),aY.val τ x= .val (.int k) m∧aY.val υ y= .val (.int k') n∧(cond (QO op) (QN op k m n K) (if k=k' then o4 op k m n K else none))=some r)∨
  (∃z:τ.den,aY.val υ y= .val τ z∧t=some τ∧τ.comparable=true∧((op= .eql∧K (.val .bool (lR τ x z))=some r)∨(op= .neq∧K (.val .bool (!lR τ x z))=some r))):=by
 unfold yw at h
 split at h
 ·exact .inl ⟨_,_,_,_,rfl,rfl,h⟩
 ·right
  split at h
  ·cases h
  ·obtain⟨e,h1⟩:=dH h
   clear h
   subst e
   obtain⟨hc,h⟩:=bB h1
   clear h1
   split at h
   ·obtain⟨e,h1⟩:=a6 h
    subst e
    exact⟨_,rfl,rfl,hc,.inl ⟨rfl,h1⟩⟩
   ·obtain⟨e,h1⟩:=a6 h
    subst e
    exact⟨_,rfl,rfl,hc,.inr ⟨rfl,h1⟩⟩
   ·cases h
theorem wv{t:TypeId}(hu:P.underlying t=some .bool)(x y:Bool)(w:World):(Op.equal t (.bool x) (.bool y)).run P w= .ok (x==y) w:=by
 unfold Op.equal
 obtain⟨n,hn⟩: ∃n,Op.maxDepth=n+1:=⟨9999,rfl⟩
 rw[hn]
 simp[Op.equalIn,run_underlying hu]
theorem run_eql_bool{t:TypeId}(hu:P.underlying t=some .bool)(x y:Bool):(binOp .eql t (.bool x) (.bool y)).run P w= .ok (.bool (x==y)) w:=by
 simp[binOp,wv hu]
theorem run_neq_bool{t:TypeId}(hu:P.underlying t=some .bool)(x y:Bool):(binOp .neq t (.bool x) (.bool y)).run P w= .ok (.bool (!(x==y))) w:=by
 simp[binOp,wv hu]
theorem adP(x y:ByteArray):(x.toList==y.toList)=decide (x.toList=y.toList):=by
 rw[avY];simp
theorem Ek{t:TypeId}(x y:ByteArray):(binOp .eql t (.string x) (.string y)).run P w= .ok (.bool (decide (x.toList=y.toList))) w:=by
 simp[binOp,Op.stringOp,adP]
theorem El{t:TypeId}(x y:ByteArray):(binOp .neq t (.string x) (.string y)).run P w= .ok (.bool (!decide (x.toList=y.toList))) w:=by
 simp[binOp,Op.stringOp,adP]
theorem Ni(hE:EnvTy P E)(hc:Core c σ a.tmps w M ν){b:BinOp}{t t':TypeId}{x y:Operand}(ho:o.op= .binOp b t x y t'){K:fk α}
  (h:D3 (σ.ρ x) (fun τ x=>D3 (σ.ρ y) fun υ y=>yw (E.ty t) b τ x υ y fun v=>K v [] [])=some r) (hn:dM c σ a o w M ν K r next):o.wp P a w next Q:=by
 have hx:=hc.ev x
 have hy:=hc.ev y
 unfold D3 at h
 split at h
 ·rename_i τ x' YN
  split at h
  ·rename_i υ y' hye
   rw[YN]at hx;rw[hye]at hy
   rcases KX h with⟨k,k',m,n,e1,e2,h1⟩|⟨z,e2,ht,KY,h1⟩
   ·rw[e1]at hx;rw[e2]at hy
    have hx:=hx.int
    have hy:=hy.int
    cases hs:QO b
    ·rw[hs]at h1
     replace h1:(if k=k' then o4 b k m n (fun v=>K v [] [])else none)=some r:=h1
     split at h1
     ·rename_i hk;subst hk
      obtain⟨v,u,hK,cw,hVR⟩:=Cz (P:=P) (w:=w) (M:=M) (ν:=ν) (t:=t) h1
      exact aL (lD ho (by rw[hx,hy];exact kZ w) (by rw[hx,hy];exact cw)) (hn _ [] [] _ _ _ _ hK (.refl hc.mem) (hVR _))
     ·cases h1
    ·rw[hs]at h1
     replace h1:QN b k m n (fun v=>K v [] [])=some r:=h1
     obtain⟨z,hK,cw⟩:=KW (P:=P) (w:=w) (k':=k') (t:=t) h1
     exact aL (lD ho (by rw[hx,hy];exact kZ w) (by rw[hx,hy];exact cw)) (hn _ [] [] _ _ _ _ hK (.refl hc.mem) (.mkInt _ _))
   ·rw[e2]at hy
    have key:(eqGuard b t x y (a.eval x) (a.eval y)).run P w= .ok () w∧(binOp .eql t (a.eval x) (a.eval y)).run P w= .ok (.bool (lR τ x' z)) w∧(binOp .neq t (a.eval x) (a.eval y)).run P w= .ok (.bool (!lR τ x' z)) w:=by
     by_cases Ec:τ.isAgg=true
     ·simp only[VR]at hx hy
      exact hE.eq t τ ht KY Ec w M _ _ _ _ b x y hx hy
     ·have hl:=hE.ty t τ ht
      cases τ with
      |int k=>
       rw[hx.int,hy.int]
       refine⟨kZ w,?_,?_⟩
       ·simp[binOp,Op.intCmp,lR,fK];rfl
       ·simp[binOp,Op.intCmp,lR,fK];rfl
      |bool=>rw[hx.bool,hy.bool];exact⟨vm w,run_eql_bool hl.bool _ _,run_neq_bool hl.bool _ _⟩
      |str=>rw[hx.str,hy.str];exact⟨xg w,by rw[Ek];simp[lR,yv],by rw[El];simp[lR,yv]⟩
      |slice e=>simp[Ty.comparable]at KY
      |unit=>simp[Ty.isAgg]at Ec
      |pair _ _=>simp[Ty.isAgg]at Ec
      |arr _ _=>simp[Ty.isAgg]at Ec
    obtain⟨hg,h2,h3⟩:=key
    rcases h1 with⟨rfl,hK⟩|⟨rfl,hK⟩
    ·exact aL (lD ho hg h2) (hn _ [] [] _ _ _ _ hK (.refl hc.mem) (.o7 _))
    ·exact aL (lD ho hg h3) (hn _ [] [] _ _ _ _ hK (.refl hc.mem) (.o7 _))
  ·cases h
 ·cases h
theorem QZ(hc:Core c σ a.tmps w M ν){u:UnOp}{t:TypeId}{x:Operand}(ho:o.op= .unOp u t x){K:fk α}
  (h:KL u (σ.ρ x) (fun v=>K v [] [])=some r) (hn:dM c σ a o w M ν K r next):o.wp P a w next Q:=by
 have hx:=hc.ev x
 unfold KL at h
 split at h
 ·rename_i k n YN
  rw[YN]at hx
  refine aL (qF ho (v:= .int k (k.wrap (0-n))) ?_) (hn _ [] [] _ _ _ _ h (.refl hc.mem) (by rw[w9];exact .mkInt _ _))
  rw[hx.int];simp[Op.unary,Op.intArith]
 ·rename_i k n YN
  rw[YN]at hx
  refine aL (qF ho (v:= .int k (iZ .xor k (if k.signed then-1 else k.max) n)) ?_) (hn _ [] [] _ _ _ _ h (.refl hc.mem) (.mkInt _ _))
  rw[hx.int,o0];simp[Op.unary,Op.intBits]
 ·rename_i b YN
  rw[YN]at hx
  refine aL (qF ho (v:= .bool (!b)) ?_) (hn _ [] [] _ _ _ _ h (.refl hc.mem) (.o7 _))
  rw[hx.bool];simp[Op.unary]
 ·cases h
end VM
end
section
namespace VM
open Go
variable{P:Program}{E:Env}{o:Oper}{a:Act}{w:World}{M:Nat→Prop}{ν:Nat→Value}{σ:St}{c:Ctx}{α:Type}{r:α}{next:Act→World→Prop}{Q:Exit→Act→World→Prop}
theorem kb{args:Array Operand}{ts:Array TypeId}{t:TypeId}{x:Operand}{n:Nat}(ho:o.op= .call {callee:= .builtin .len,args,argTypes:=ts})(ha:args.toList=[x])(_ht:ts.toList.head?=some t)
  (hl: ∀ty,(Builtin.len_ ts ty #[a.eval x]).run P w= .ok (goInt n) w):(execOp a.eval o).run P w= .ok (.value (.int .i64 n)) w:=by
 obtain⟨cs,hr⟩:=mi (P:=P) (ρ:=a.eval) ho (w:=w)
 rw[hr]
 have:args.map a.eval= #[a.eval x]:=by apply av7;simp[ha]
 rw[this]
 simp[builtin,hl,goInt]
theorem Q0{ts:Array TypeId}{t ty:TypeId}(ht:ts[0]? =some t)(hu:P.underlying t=some .string)(s:ByteArray):(Builtin.len_ ts ty #[.string s]).run P w= .ok (goInt s.size) w:=by
 simp[Builtin.len_,ht,run_underlying hu]
theorem Q1{ts:Array TypeId}{t ty e:TypeId}{n:Nat}(ht:ts[0]? =some t)(hu:P.underlying t=some (.array n e))(v:Value):(Builtin.len_ ts ty #[v]).run P w= .ok (goInt n) w:=by
 simp[Builtin.len_,ht,run_underlying hu]
theorem rG{ts:Array TypeId}{t ty e:TypeId}(ht:ts[0]? =some t)(hu:P.underlying t=some (.slice e))(ad:Option Addr)(n cp:Nat):(Builtin.len_ ts ty #[.slice ad n cp]).run P w= .ok (goInt n) w:=by
 simp[Builtin.len_,ht,run_underlying hu]
theorem ER.Nj{e:Ty}{l:List e.den}{v:Value}(h:ER w M v (.own e l)): ∃ad cp,v= .slice ad l.length cp:=by
 simp only[ER]at h
 rcases h with⟨rfl,a,hv⟩|⟨b,cs,t,cap,hv,_⟩
 ·exact⟨a,0,hv⟩
 ·exact⟨_,cap,hv⟩
theorem ER.Nk{e:Ty}{l:List e.den}{v:Value}(h:ER w M v (.kt e l)): ∃ad cp,v= .slice ad l.length cp:=by
 simp only[ER]at h
 have h:=h.1
 simp only[Rd,auZ,avB]at h
 obtain⟨a,cap,hv,_⟩:=h
 exact⟨a,cap,hv⟩
theorem YO(hE:EnvTy P E)(hc:Core c σ a.tmps w M ν){args:Array Operand}{ts:Array TypeId}{x:Operand}(ho:o.op= .call {callee:= .builtin .len,args,argTypes:=ts})(ha:args.toList=[x]){K:fk α}{τ:Ty}
  (ht:(ts.toList.head?).bind E.ty=some τ) (h:D4 τ (σ.ρ x) σ.H K=some r) (hn:dM c σ a o w M ν K r next):o.wp P a w next Q:=by
 obtain⟨t,nv,Qq⟩:=avG.1 ht
 have Q2:ts[0]? =some t:=by rw[←nv,←auS,List.head?_eq_getElem?]
 have hl:=hE.ty t τ Qq
 have hv:=hc.ev x
 unfold D4 at h
 split at h
 ·rename_i e e' l hx
  obtain⟨_,hu,_⟩:=hl.slice
  rw[hx]at hv
  simp only[VR]at hv
  have hv:=V.slice.1 hv
  simp only[Rd,auZ,avB]at hv
  obtain⟨ad,cap,hv,_⟩:=hv
  refine aL (kb ho ha nv (n:=List.length l) fun ty=>by rw[hv];exact rG Q2 hu _ _ _) (hn _ [] [] _ _ _ _ h (.refl hc.mem) (.mkInt _ _))
 ·rename_i n e n' e' l hx
  obtain⟨_,hu,_⟩:=hl.arr
  refine aL (kb ho ha nv (n:=n) fun ty=>Q1 Q2 hu _) (hn _ [] [] _ _ _ _ h (.refl hc.mem) (.mkInt _ _))
 ·rename_i s hx
  rw[hx]at hv
  refine aL (kb ho ha nv (n:=ByteArray.size s) fun ty=>by rw[hv.str];exact Q0 Q2 hl.str _) (hn _ [] [] _ _ _ _ h (.refl hc.mem) (.mkInt _ _))
 ·rename_i e hx
  obtain⟨_,hu,_⟩:=hl.slice
  rw[hx]at hv
  simp only[VR]at hv
  obtain⟨ad,hv⟩:=hv
  refine aL (kb ho ha nv (n:=0) fun ty=>by rw[hv];exact rG Q2 hu _ _ _) (hn _ [] [] _ _ _ _ h (.refl hc.mem) (.mkInt _ _))
 ·rename_i e id hx
  obtain⟨_,hu,_⟩:=hl.slice
  rw[hx]at hv
  simp only[VR]at hv
  split at h
  ·rename_i e' l aS
   obtain⟨ad,cap,hh⟩:=(hc.mem.iN id _ aS).Nj
   refine aL (kb ho ha nv (n:=l.length) fun ty=>by rw[hv.2,hh];exact rG Q2 hu _ _ _) (hn _ [id] [] _ _ _ _ h (.refl hc.mem) (.mkInt _ _))
  ·rename_i e' l aS
   obtain⟨ad,cap,hh⟩:=(hc.mem.iN id _ aS).Nk
   refine aL (kb ho ha nv (n:=l.length) fun ty=>by rw[hv.2,hh];exact rG Q2 hu _ _ _) (hn _ [id] [] _ _ _ _ h (.refl hc.mem) (.mkInt _ _))
  ·cases h
 ·cases h
theorem Em{H:Nat→Option aQ}(up:Bool): ∀(xs:List aY) (x:aY) (v:Value) (vs:List Value) (K:aY→Option α),VR w M H ν x v→fE w M H ν xs vs→Qn up x xs K=some r→
  ∃x' v',K x'=some r∧(vs.foldlM (if up then Builtin.max2 else Builtin.min2) v).run P w= .ok v' w∧VR w M H ν x' v'
 |[],x,v,[],K,hx,_,h=>⟨x,v,h,by simp,hx⟩
 |[],_,_,_::_,_,_,hs,_=>by simp[fE]at hs
 |_::_,_,_,[],_,_,hs,_=>by simp[fE]at hs
 |y::xs,x,v,u::vs,K,hx,hs,h=>by
  simp only[fE]at hs
  obtain⟨hy,hs⟩:=hs
  unfold Qn at h
  obtain⟨k,m,e1,h1⟩:=jn h
  obtain⟨k',n,e2,h2⟩:=jn h1
  clear h h1
  split at h2
  ·rename_i hk
   subst hk
   rw[e1]at hx;rw[e2]at hy
   have hx:=hx.int
   have hy:=hy.int
   obtain⟨x',v',hK,cw,hV⟩:=Em up xs _ (.int k (cond up (mx m n) (mn m n))) vs K (.mkInt _ _) hs h2
   refine⟨x',v',hK,?_,hV⟩
   rw[List.foldlM_cons,Sem.run_bind]
   have:((if up then Builtin.max2 else Builtin.min2) v u).run P w= .ok (.int k (cond up (mx m n) (mn m n))) w:=by
    rw[hx,hy]
    cases up
    ·simp[Builtin.min2,Xq]
    ·simp[Builtin.max2,adx]
   rw[this]
   exact cw
  ·cases h2
theorem Xv(hc:Core c σ a.tmps w M ν)(up:Bool){args:Array Operand}{ts:Array TypeId}{x:Operand}{xs:List Operand}(ho:o.op= .call {callee:= .builtin (if up then .max else .min),args,argTypes:=ts})(ha:args.toList=x::xs){K:fk α}
  (h:Qn up (σ.ρ x) (xs.map σ.ρ) (fun v=>K v [] [])=some r) (hn:dM c σ a o w M ν K r next):o.wp P a w next Q:=by
 obtain⟨x',v',hK,cw,hV⟩:=Em (P:=P) up (xs.map σ.ρ) (σ.ρ x) (a.eval x) (xs.map a.eval) _ (hc.ev x) (hc.evs xs) h
 refine aL ?_ (hn _ [] [] _ _ _ _ hK (.refl hc.mem) hV)
 obtain⟨cs,hr⟩:=mi (P:=P) (ρ:=a.eval) ho (w:=w)
 rw[hr]
 have hm:(args.map a.eval).toList=a.eval x::xs.map a.eval:=by simp[ha]
 cases up
 ·simp only[au6,avQ,builtin,Builtin.min_,hm,Sem.run_bind]at cw ⊢
  rw[cw];simp
 ·simp only[awt,builtin,Builtin.max_,hm,Sem.run_bind]at cw ⊢
  rw[cw];simp
theorem AO{ρ:Operand→Value}{t:TypeId}{x i:Operand}(ho:o.op= .index t x i){k:IntKind}{n:Int}{s:ByteArray}
  (hu:P.underlying t=some .string) (hx:ρ x= .string s) (hi:ρ i= .int k n) (h0:0≤n) (h1:n<(s.size:Int)):
  (execOp ρ o).run P w= .ok (.value (.int .u8 ((s.data.getD n.toNat 0).toNat:Int))) w:=by
 have dz:n.toNat<s.size:=by omega
 have hs:s[n.toNat]? =some (s[n.toNat]'dz):=by simp[dz]
 have he:s[n.toNat]'dz=s.data.getD n.toNat 0:=by
  have sT:n.toNat<s.data.size:=dz
  rw[Array.getD,dif_pos sT];rfl
 simp[execOp,ho,hx,hi,Instr.index,asIntOf,run_underlying hu,h0,hs,he]
theorem Nl(hE:EnvTy P E)(hc:Core c σ a.tmps w M ν){t:TypeId}{x i:Operand}(ho:o.op= .index t x i){K:fk α}{τ:Ty}(ht:E.ty t=some τ)
  (h:qB τ (σ.ρ x) (σ.ρ i) (fun v=>K v [] [])=some r) (hn:dM c σ a o w M ν K r next):o.wp P a w next Q:=by
 unfold qB at h
 obtain⟨k,n,hi,h2⟩:=jn h
 clear h
 have h:=h2
 clear h2
 have JH:=hc.ev i
 rw[hi]at JH
 have JH:=JH.int
 have hv:=hc.ev x
 have tJ:=hE.ty t τ ht
 split at h
 ·rename_i len e υ l hx
  obtain⟨e',Hu,hle⟩:=tJ.arr
  obtain⟨e1,h⟩:=a6 h
  subst e1
  obtain⟨jP,h⟩:=bB h
  obtain⟨h0,h1⟩:=o8 jP
  rw[hx]at hv
  simp only[VR]at hv
  obtain⟨cs,hu,hr⟩:=hv.agg rfl
  have dT:=hr.idx (i:=n.toNat) (by omega)
  refine aL (AI ho Hu hle hu JH h0 h1 dT) (hn _ [] [] _ _ _ _ h (.refl hc.mem) ?_)
  simp only[VR]
  exact V.bF dT
 ·rename_i s hx
  obtain⟨jP,h⟩:=bB h
  obtain⟨h0,h1⟩:=o8 jP
  rw[hx]at hv
  refine aL (AO ho tJ.str hv.str JH h0 h1) (hn _ [] [] _ _ _ _ h (.refl hc.mem) (.mkInt _ _))
 ·cases h
theorem kv(τ:Ty):τ.ca.length=τ.size:=(Rd.zero default (fun _=>False) τ).length
theorem xk{z:Array Value}{n i s:Nat}(hz:z.size=s)(hi:i*s+s≤n):((madeCells z n).toList.drop (i*s)).take s=z.toList:=by
 apply awU
 intro j
 rw[avi]
 split
 ·rename_i hj
  rw[avj,auS,auS]
  simp only[madeCells,Array.getElem?_map]
  rw[Array.getElem?_range,auh (by omega)]
  simp only[Option.map_some]
  have:(i*s+j)%z.size=j:=by rw[hz,axB,Nat.mul_add_mod,Nat.mod_eq_of_lt hj]
  rw[this,axp (by omega),getElem!_pos z j (by omega)]
 ·rename_i hj
  rw[auS,axy (by omega)]
theorem mj.made(w:World)(M:Nat→Prop)(e:Ty){n l:Nat}(h:l*e.size≤n):mj w M e (madeCells (bF e e.ca).cells n).toList (List.replicate l e.zero):=by
 intro i hi
 rw[aun]at hi
 have:=cQ (s:=e.size) hi
 rw[xk (by rw[←aum,eA,kv]) (by omega),eA,axz]
 exact Rd.zero w M e
theorem vq{ρ:Operand→Value}{t:TypeId}{x y:Operand}(ho:o.op= .makeSlice t x y){v:Value}{w':World}(h:(Instr.makeSlice t (ρ x) (ρ y)).run P w= .ok v w'):(execOp ρ o).run P w= .ok (.value v) w':=by
 simp[execOp,ho,h]
theorem CA(hE:EnvTy P E)(hc:Core c σ a.tmps w M ν){t:TypeId}{x y:Operand}(ho:o.op= .makeSlice t x y){K:fk α}{e:Ty}(ht:E.ty t=some (.slice e)){id:Nat}
  (h:qx (σ.ρ x) (fun _ l=>qx (σ.ρ y) fun _ c=>cond (dX l c)
   (me σ.H id (.own e []) (K (.ref id) [id] [(id,some (.own e (List.replicate l.toNat e.zero)))])) none)=some r) (hn:dM c σ a o w M ν K r next):o.wp P a w next Q:=by
 obtain⟨k,l,hx,h1⟩:=jn h
 obtain⟨k',n,hy,h2⟩:=jn h1
 clear h h1
 obtain⟨hk,h⟩:=bB h2
 obtain⟨aS,h⟩:=hZ h
 rw[Bh]at hk
 obtain⟨h0,h1,h3⟩:=auw hk
 simp only[si]at h3
 obtain⟨e',hu,hle⟩:=(hE.ty t _ ht).slice
 obtain⟨i,hi,hs,hz,hb⟩:=hle.base
 have CB:=hc.ev x
 have xi:=hc.ev y
 rw[hx]at CB;rw[hy]at xi
 have YP:(i.bytes:Int)*n≤281474976710656:=by
  have h4:(i.bytes:Int)≤2048:=by omega
  have:(i.bytes:Int)*n≤2048*n:=avy h4 (by omega)
  omega
 have cw:=run_make (P:=P) w t e' i _ hu hi hz k k' l n h0 h1 YP (by omega)
 have hlen:(List.replicate l.toNat e.zero).length=l.toNat:=aun
 have eO:=Tr.row hc.mem aS e' (e:=e) (cs:=madeCells (bF e e.ca).cells (n.toNat*i.size)) (l:=List.replicate l.toNat e.zero) (cap:=n.toNat) (by rw[hlen];omega) (by simp[maxLen];omega)
  (by rw[size_madeCells,hs]) (mj.made w M e (axh (by omega) (by omega)))
 refine aL (vq ho (by rw[CB.int,xi.int];exact cw)) (hn _ _ _ _ _ _ _ h eO ?_)
 simp only[VR]
 exact⟨by show bn σ.H id _ id≠none;rw[ak];simp,by simp[cj]⟩
end VM
end
