/- A part of the proof of WindBears of layer 21: a machine that reads a function of the program as an equation between values. -/
import Derived.Test.YtecmobijochjkaaGreatVm1
set_option linter.all false
section
namespace VM
open Go
variable{P:Program}{E:Env}{o:Oper}{a:Act}{w:World}{M:Nat→Prop}{ν:Nat→Value}{σ:St}{c:Ctx}{α:Type}{r:α}{next:Act→World→Prop}{Q:Exit→Act→World→Prop}
theorem a8{v:Value}{w':World}(h:(execOp a.eval o).run P w= .ok (.value v) w')(hn:next (a.put o.dst v) w'):o.wp P a w next Q:=by
 unfold Oper.wp Oper.upon;rw[h];exact hn
theorem q3{w':World}(h:(execOp a.eval o).run P w= .ok .skip w')(hn:next (a.put o.dst undef) w'):o.wp P a w next Q:=by
 unfold Oper.wp Oper.upon;rw[h];exact hn
def gg(c:Ctx)(σ:St)(a:Act)(o:Oper)(w:World)(M:Nat→Prop)(ν:Nat→Value)(K:jf α)(r:α)(next:Act→World→Prop):Prop:=
 ∀v rd ups v' w' M' ν',K v rd ups=some r→Tr c σ.H w M ν (c5 σ.H ups) w' M' ν'→VR w' M' (c5 σ.H ups) ν' v v'→next (a.put o.dst v') w'
theorem Core.ev(h:Core c σ a.tmps w M ν)(x:Operand):VR w M σ.H ν (σ.ρ x) (a.eval x):=h.op a.defers x
theorem ng{x:bD}{k:IntKind→Int→Option α}(h:wh x k=some r): ∃(i:IntKind) (n:Int),x= .val (.int i) n∧k i n=some r:=by
 unfold wh at h
 split at h
 ·exact⟨_,_,rfl,h⟩
 ·cases h
theorem VR.int{H:Nat→Option bh}{k:IntKind}{n:Int}{v:Value}(h:VR w M H ν (.val (.int k) n) v):v= .int k n:=by
 simp only[VR,V,Ty.isAgg,jc,eU,Rd,fi,eT]at h;exact h
theorem VR.bool{H:Nat→Option bh}{b:Bool}{v:Value}(h:VR w M H ν (.val .bool b) v):v= .bool b:=by
 simp only[VR,V,Ty.isAgg,jc,eU,Rd,fi,eT]at h;exact h
theorem VR.str{H:Nat→Option bh}{b:ByteArray}{v:Value}(h:VR w M H ν (.val .str b) v):v= .string b:=by
 simp only[VR,V,Ty.isAgg,jc,eU,Rd,fi,eT]at h;exact h
theorem VR.mkInt{H:Nat→Option bh}(k:IntKind)(n:Int):VR w M H ν (.val (.int k) n) (.int k n):=by simp[VR,V,Ty.isAgg,Rd]
theorem VR.uA{H:Nat→Option bh}(b:Bool):VR w M H ν (.val .bool b) (.bool b):=by simp[VR,V,Ty.isAgg,Rd]
theorem VR.mkStr{H:Nat→Option bh}(b:ByteArray):VR w M H ν (.val .str b) (.string b):=by simp[VR,V,Ty.isAgg,Rd]
theorem RA(hc:Core c σ a.tmps w M ν){x:Operand}(ho:o.op= .move x∨o.op= .assign x){K:jf α}(h:K (σ.ρ x) [] []=some r)(hn:gg c σ a o w M ν K r next):o.wp P a w next Q:=by
 have hr:(execOp a.eval o).run P w= .ok (.value (a.eval x)) w:=by
  rcases ho with ho|ho
  ·simp[execOp,ho]
  ·simp[execOp,ho]
 exact a8 hr (hn _ _ _ _ _ _ _ h (.refl hc.mem) (hc.ev x))
theorem Zl(hc:Core c σ a.tmps w M ν){x y z:Operand}(ho:o.op= .pick x y z){K:jf α}{t:Bool}(hx:σ.ρ x= .val .bool t)(h:cond t (K (σ.ρ y) [] []) (K (σ.ρ z) [] [])=some r)
  (hn:gg c σ a o w M ν K r next):o.wp P a w next Q:=by
 have hv:=hc.ev x
 rw[hx]at hv
 refine a8 (Mq ho hv.bool) ?_
 cases t
 ·exact hn _ _ _ _ _ _ _ h (.refl hc.mem) (hc.ev z)
 ·exact hn _ _ _ _ _ _ _ h (.refl hc.mem) (hc.ev y)
theorem lx{H:Nat→Option bh}{id:Nat}{e:bh}{K:Option α}(h:qU H id e K=some r):H id=none∧K=some r:=by
 unfold qU at h
 split at h
 ·rename_i h';exact⟨h',h⟩
 ·cases h
theorem VR.afL{H:Nat→Option bh}{id:Nat}{τ:Ty}{x:τ.den}{b:Nat}(bf:H id=some (.obj τ x))(hν:ν id= .pointer (some ⟨b,0,none⟩)):VR w M H ν (.jr id []) (.pointer (some ⟨b,0,none⟩)):=by
 simp only[VR]
 exact⟨_,bf,trivial,b,hν,rfl⟩
theorem VR.Vw{H:Nat→Option bh}{id:Nat}{τ:Ty}{x:τ.den}{q:List Step}{j b:Nat}(bf:H id=some (.gk τ x q j))(hν:ν id= .pointer (some ⟨b,0,none⟩)):VR w M H ν (.jr id []) (.pointer (some ⟨b,0,none⟩)):=by
 simp only[VR]
 exact⟨_,bf,trivial,b,hν,rfl⟩
theorem gW(τ:Ty):(cM τ τ.dj).cells.toList=τ.dj:=Hk (Rd.zero default (λ_=>False) τ)
theorem Mr: ∀{τ:Ty} {n:Nat} {a:Ty},JN τ n=some a→ ∃l m,τ.dj=l++(a.dj++m)∧l.length=rV τ n:=by
 intro τ
 induction τ with
 |pair a b _ Vv=>
  intro n c h
  cases n with
  |zero=>cases h;exact⟨[],b.dj,rfl,rfl⟩
  |succ n=>
   obtain⟨l,m,h1,h2⟩:=Vv (n:=n) (a:=c) h
   refine⟨a.dj++l,m,by simp only[Ty.dj];rw[h1,bu],?_⟩
   rw[aS,h2,(Rd.zero default (λ_=>False) a).length];rfl
 |_=>intro n c h;simp[JN]at h
theorem z6: ∀{p:List Step} {τ υ:Ty},gO p τ υ=true→ ∃l m,τ.dj=l++(υ.dj++m)∧l.length=cF p τ
 |[],τ,υ,h=>by
  have h:=bz h
  subst h
  exact⟨[],[],by simp,rfl⟩
 | .kG n::p,τ,υ,h=>by
  unfold gO at h
  split at h
  ·rename_i a ha
   obtain⟨l,m,h1,h2⟩:=Mr ha
   obtain⟨l',m',h3,h4⟩:=z6 h
   obtain⟨_,_,hf⟩:=tE ha τ.zero
   have:=hf.eq.1
   subst this
   refine⟨l++l',m'++m,by rw[h1,h3];simp,?_⟩
   rw[aS,h2,h4];rfl
  ·cases h
 | .idx _::_,_,_,h=>by simp[gO]at h
theorem Ih{p:List Step}{τ e:Ty}(h:gO p τ (.slice e)=true):τ.dj[cF p τ]? =some (.slice none 0 0):=by
 obtain⟨l,m,h1,h2⟩:=z6 h
 rw[h1,oI ω,h2,tA];rfl
theorem cB{b:Bool}{K:Option α}(h:cond b K none=some r):b=true∧K=some r:=by
 cases b
 ·cases h
 ·exact⟨rfl,h⟩
theorem RC{τ:Ty}{q:List Step}{e:Ty}(h:lkT E τ=some (q,e)):gO q τ (.slice e)=true:=by
 unfold lkT at h
 split at h
 ·rename_i υ q' e' _ _
  cases hd:decide (υ=τ)<;>rw[hd]at h
  ·cases h
  ·simp only[aq]at h
   cases hp:gO q' τ (.slice e')<;>rw[hp]at h
   ·cases h
   ·cases h;exact hp
 ·cases h
theorem tJ{τ:Ty}{id:Nat}{q:List Step}{e:Ty}(h:JP E τ id=some (q,e)):gO q τ (.slice e)=true:=by
 unfold JP at h
 split at h
 ·exact RC (cB h).2
 ·cases h
theorem EW{H:Nat→Option bh}{id:Nat}{τ:Ty}{x:τ.den}{q:List Step}{e:Ty}{K:jf α}(h:Di H id τ x q e K=some r):H id=none∧H (id+1)=none∧K (.jr id []) [id,id+1] [(id,some (.gk τ x q (id+1))),(id+1,some (.own e []))]=some r:=by
 unfold Di at h
 obtain⟨h1,h⟩:=lx h
 obtain⟨h2,h⟩:=lx h
 exact⟨h1,h2,h⟩
theorem S9{H:Nat→Option bh}{i j:Nat}{u v:Option bh}(h:i≠j):bY (bY H i u) j v=bY (bY H j v) i u:=by
 funext k
 by_cases hi:k=i
 ·subst hi;rw[az _ _ h,ax,ax]
 ·by_cases hj:k=j
  ·subst hj;rw[ax,az _ _ hi,ax]
  ·rw[az _ _ hj,az _ _ hi,az _ _ hi,az _ _ hj]
theorem yQ{H:Nat→Option bh}{i:Nat}{u v:Option bh}:bY (bY H i u) i v=bY H i v:=by
 funext k
 by_cases hi:k=i
 ·subst hi;rw[ax,ax]
 ·rw[az _ _ hi,az _ _ hi,az _ _ hi]
theorem Tr.Vx{H:Nat→Option bh}(h:Mem c H w M ν){id k:Nat}(hk:H k=none){τ:Ty}{x:τ.den}(bf:H id=some (.obj τ x)){b:Nat}{cs:Array Value}{t:TypeId}(hb:ν id= .pointer (some ⟨b,0,none⟩))(hg:w.heap[b]? =some (.cells cs t (0,0)))
  {q:List Step} {e:Ty} (hq:gO q τ (.slice e)=true) {ad:Option Addr} (hz:cs.toList[cF q τ]? =some (.slice ad 0 0)):
  Tr c H w M ν (c5 H [(id,some (.gk τ x q k)),(k,some (.own e []))]) w M (dg ν k (.slice ad 0 0)):=by
 have jB:k≠id:=λe=>by rw[e,bf]at hk;cases hk
 have h2:=Tr.nothing h hk e ad
 have hd2:bY H k (some (.own e [])) id=some (.obj τ x):=by rw[az _ _ (eJ jB)];exact bf
 have hν:dg ν k (.slice ad 0 0) id= .pointer (some ⟨b,0,none⟩):=by unfold dg;rw[ah (eJ jB)];exact hb
 have hν1:dg ν k (.slice ad 0 0) k= .slice ad 0 0:=by simp[dg]
 have he:=h2.mem.la id _ hd2
 simp only[ER]at he
 obtain⟨b',cs',t',eZ,hg',hM,kX⟩:=he
 rw[hν]at eZ;cases eZ
 rw[hg]at hg';cases hg'
 have h3:=Tr.Hn h2.mem hd2 trivial (e':= .gk τ x q k) trivial rfl (λ_ _=>by simp) (by
   rw[hν];simp only[ER]
   exact⟨_,cs,t,cs.toList,.slice ad 0 0,rfl,hg,hM,kX,(Mn hz).symm,rfl,e,hq⟩)
  (fun τ' x' p' j' hl=>by
   cases hl
   refine⟨by rw[ax];simp,_,hν,?_⟩
   rw[hν1,cell_of hg,←gV];exact hz)
 rw[S9 (i:=k) (j:=id) jB]at h3
 exact h2.trans h3
theorem Tr.Di{H:Nat→Option bh}(h:Mem c H w M ν){id:Nat}(bf:H id=none)(pz:H (id+1)=none)(t:TypeId){τ:Ty}{cs:Array Value}{x:τ.den}(hr:Rd w M τ cs.toList x){q:List Step}{e:Ty}(hq:gO q τ (.slice e)=true){ad:Option Addr}
  (hz:cs.toList[cF q τ]? =some (.slice ad 0 0)):
  ∃M' ν',Tr c H w M ν (c5 H [(id,some (.gk τ x q (id+1))),(id+1,some (.own e []))]) (w.alloc (.cells cs t)) M' ν'∧ν' id= .pointer (some ⟨w.heap.size,0,none⟩):=by
 have h1:=Tr.var h bf t hr
 have h2:=Tr.Vx h1.mem (id:=id) (k:=id+1) (by rw[az _ _ ω];exact pz) (ax _ _ _) (by simp[dg]) (ES w _) hq hz
 have e1:c5 (bY H id (some (.obj τ x))) [(id,some (.gk τ x q (id+1))),(id+1,some (.own e []))]=c5 H [(id,some (.gk τ x q (id+1))),(id+1,some (.own e []))]:=by
  show bY (bY (bY H id _) id _) (id+1) _=bY (bY H id _) (id+1) _
  rw[yQ]
 rw[e1]at h2
 exact⟨_,_,h1.trans h2,by simp[dg]⟩
theorem Vy(hE:EnvTy P E)(hc:Core c σ a.tmps w M ν){t:TypeId}(ho:o.op= .alloc t){K:jf α}{τ:Ty}(ht:E.ty t=some τ){id:Nat}
  (h:(match JP E τ id with
   |some (q,e)=>Di σ.H id τ τ.zero q e K
   |none=>qU σ.H id (.obj τ τ.zero) (K (.jr id []) [id] [(id,some (.obj τ τ.zero))]))=some r) (hn:gg c σ a o w M ν K r next):o.wp P a w next Q:=by
 obtain⟨i,hi,hs,hz,_⟩:=(hE.ty t τ ht).base
 have hr:Rd w M τ (cM τ τ.dj).cells.toList τ.zero:=by rw[gW];exact Rd.zero w M τ
 split at h
 ·rename_i q e sZ
  obtain⟨bf,pz,h⟩:=EW h
  obtain⟨M',ν',ix,hν⟩:=Tr.Di hc.mem bf pz t hr (tJ sZ) (by rw[gW];exact Ih (tJ sZ))
  refine a8 (zY ho hi hz w) (hn _ _ _ _ _ M' ν' h ix ?_)
  exact VR.Vw (by show bY _ (id+1) _ id=_;rw[az _ _ ω,ax]) hν
 ·obtain⟨bf,h⟩:=lx h
  refine a8 (zY ho hi hz w) (hn _ _ _ _ _ _ _ h (Tr.var hc.mem bf t hr) (VR.afL (ax _ _ _) (by simp[dg])))
theorem RD(hE:EnvTy P E)(hc:Core c σ a.tmps w M ν){t:TypeId}{x:Operand}(ho:o.op= .box t x){K:jf α}{τ:Ty}{id:Nat}
  (h:mc true (σ.ρ x) σ.H τ (λy rd ups=>qU σ.H id (.obj τ y) (K (.jr id []) (id::rd) (ups++[(id,some (.obj τ y))])))=some r) (hn:gg c σ a o w M ν K r next):o.wp P a w next Q:=by
 obtain⟨y,rd,ups,M',h,ix,hV,hz,_⟩:=od (.refl _) hc.mem (hc.ev x) h
 obtain⟨bf,h⟩:=lx h
 have agX:c5 σ.H ups id=none:=hz.none bf
 have wz:=ix.trans (Tr.var ix.mem agX t hV.cells)
 refine a8 (ET ho w) (hn _ _ _ _ _ (λb=>M' b∨b=w.heap.size) (dg ν id (.pointer (some ⟨w.heap.size,0,none⟩))) h ?_ ?_)
 ·rw[gv];exact wz
 ·rw[gv];exact VR.afL (ax _ _ _) (by simp[dg])
theorem agY(hE:EnvTy P E)(hc:Core c σ a.tmps w M ν){t:TypeId}{x:Operand}(ho:o.op= .box t x){K:jf α}{τ:Ty}{id:Nat}
  (h:(match JP E τ id,σ.ρ x with
   |some ([.kG m],e),.JO υ y n=>cond (Nat.beq m n) (c8 υ τ y λy=>Di σ.H id τ y [.kG m] e K) (mc true (σ.ρ x) σ.H τ (λy rd ups=>qU σ.H id (.obj τ y) (K (.jr id []) (id::rd) (ups++[(id,some (.obj τ y))]))))
   |_,_=>mc true (σ.ρ x) σ.H τ (λy rd ups=>qU σ.H id (.obj τ y) (K (.jr id []) (id::rd) (ups++[(id,some (.obj τ y))]))))=some r) (hn:gg c σ a o w M ν K r next):o.wp P a w next Q:=by
 split at h
 ·rename_i m e υ y n sZ hx
  cases hb:Nat.beq m n
  ·rw[hb]at h
   exact RD hE hc ho h hn
  ·rw[hb]at h
   have EX:=fW hb
   subst EX
   simp only[aq]at h
   obtain⟨e1,h⟩:=bC h
   subst e1
   obtain⟨bf,pz,h⟩:=EW h
   have hv:=hc.ev x
   rw[hx]at hv
   simp only[VR]at hv
   obtain⟨hV,cs,ad,hva,hz⟩:=hv
   have JY:(a.eval x).cells.toList=cs.toList:=by rw[hva];rfl
   obtain⟨M',ν',ix,hν⟩:=Tr.Di hc.mem bf pz t hV.cells (tJ sZ) (ad:=ad) (by rw[JY];simpa [cF]using hz)
   refine a8 (ET ho w) (hn _ _ _ _ _ M' ν' h ix ?_)
   exact VR.Vw (by show bY _ (id+1) _ id=_;rw[az _ _ ω,ax]) hν
 ·exact RD hE hc ho h hn
theorem uB{i:Int}{n:Nat}(h:bb i n=true):0≤i∧i<(n:Int):=by rw[Vr]at h;simpa using h
theorem mB{b:Bool}{K:Option α}(h:cond b none K=some r):b=false∧K=some r:=by
 cases b
 ·exact⟨rfl,h⟩
 ·cases h
theorem Cs(hm:Mem c σ.H w M ν){x:bD}{u:Value}(hv:VR w M σ.H ν x u){K:(υ:Ty)→υ.den→List Nat→Option α}(h:kW x σ.H K=some r):
  ∃υ y rd,K υ y rd=some r∧ ∃b off cs,u= .pointer (some ⟨b,off,none⟩)∧At w b off cs∧Rd w M υ cs y:=by
 unfold kW at h
 split at h
 ·simp only[VR]at hv
  obtain⟨b,off,rfl,_,_,cs,ha,hr⟩:=hv
  exact⟨_,_,_,h,b,off,cs,rfl,ha,hr⟩
 ·rename_i id p
  simp only[VR]at hv
  obtain⟨e,he,nR⟩:=hv
  have mM:=hm.la id e he
  rw[he]at h
  cases e with
  |obj τ x=>
   obtain⟨υ,y,o',hp,hK⟩:=ke h
   simp only[AR]at nR
   obtain⟨hi,b,hb,rfl⟩:=nR
   simp only[ER]at mM
   obtain⟨b',cs,t,eZ,hg,_,hr⟩:=mM
   rw[hb]at eZ;cases eZ
   have:=hp.eq.2
   subst this
   exact⟨υ,y,_,hK,b,_,_,rfl,At.of_block hg _ _,hp.rd hi hr⟩
  |own e l=>
   simp only[AR]at nR
   obtain⟨i,q,rfl,Hp,hi,b,n,cp,hb,rfl⟩:=nR
   obtain⟨υ,y,o',hp,hK⟩:=ke h
   simp only[ER]at mM
   rcases mM with⟨rfl,_⟩|⟨b',cs,t,cap,eZ,hg,_,Vc,hl,G9,hs,hr⟩
   ·simp at Hp
   ·rw[hb]at eZ;cases eZ
    have:=hp.eq.2
    subst this
    have h1:=hr i Hp
    rw[←kM l i e.zero Hp]at h1
    have h2:=hp.rd hi h1
    have h3:=hp.bound hi
    rw[qL,jI,qM,iE ω]at h2
    exact⟨υ,y,_,hK,b,_,_,rfl,At.of_block hg _ _,h2⟩
  |oK e l=>
   simp only[AR]at nR
   obtain⟨i,q,rfl,Hp,hi,b,n,cp,hb,rfl⟩:=nR
   obtain⟨υ,y,o',hp,hK⟩:=ke h
   simp only[ER]at mM
   have kX:=mM.1
   simp only[Rd,fi,eT]at kX
   obtain⟨a0,cap,ha0,_,hr⟩:=kX
   obtain⟨b',off,rfl,_,_,cs,p5,hrr⟩:=hr i Hp
   rw[hb]at ha0;cases ha0
   have:=hp.eq.2
   subst this
   rw[gq]at p5
   have alv:Rd w M e cs (List.getD l i e.zero):=by rw[kM l i e.zero Hp];exact hrr
   have h2:=hp.rd hi alv
   have h3:=hp.bound hi
   have Zk:=alv.length
   refine⟨υ,y,_,hK,b,_,_,rfl,?_,h2⟩
   intro j v hj
   rw[lR]at hj
   split at hj
   ·rw[lS]at hj
    have:=p5 _ v hj
    rwa [←oX]at this
   ·cases hj
  |gk _ _ _ _=>cases h
  |gone=>cases h
 ·cases h
theorem Mem.linked{H:Nat→Option bh}(hm:Mem c H w M ν){id:Nat}{τ:Ty}{x:τ.den}{q:List Step}{j:Nat}(bf:H id=some (.gk τ x q j)):
  ∃b cs t sy e,ν id= .pointer (some ⟨b,0,none⟩)∧w.heap[b]? =some (.cells cs t (0,0))∧M b∧Rd w M τ sy x∧cs.toList=fc sy (cF q τ) [ν j]∧(ν j).oneCell'=true∧gO q τ (.slice e)=true∧cF q τ<sy.length∧H j≠none:=by
 have mM:=hm.la id _ bf
 simp only[ER]at mM
 obtain⟨b,cs,t,sy,u,hb,hg,hM,hr,JY,h1,e,hq⟩:=mM
 obtain⟨hj,b',eZ,RE⟩:=hm.gk id _ _ _ _ bf
 rw[hb]at eZ;cases eZ
 obtain⟨y,o,hp⟩:=tF hq x
 have fb:cF q τ<sy.length:=by
  have:=hp.bound (kN hq).1
  have h2:=hp.eq.2
  have h3:=hr.length
  have:(Ty.slice e).size=1:=rfl
  omega
 have hu:u=ν j:=by
  rw[cell_of hg,←gV,JY,DW fb]at RE
  exact oJ RE
 subst hu
 exact⟨b,cs,t,sy,e,hb,hg,hM,hr,JY,h1,hq,fb,hj⟩
theorem yR{H:Nat→Option bh}(hm:Mem c H w M ν){id:Nat}{τ:Ty}{x:τ.den}{q:List Step}{j:Nat}(bf:H id=some (.gk τ x q j)){k:τ.den→jb→Option α}(h:Dh j q τ x H k=some r):
  ∃z ups M',k z ups=some r∧Tr c H w M ν (c5 H ups) w M' ν∧Fz H (c5 H ups)∧((∃e l,H j=some (.oK e l)∧ups=[])∨ ∃e l,H j=some (.own e l)∧ups=[(j,some (.oK e l))])∧ ∃b cs t,ν id= .pointer (some ⟨b,0,none⟩)∧w.heap[b]? =some (.cells cs t (0,0))∧M' b∧Rd w M' τ cs.toList z:=by
 obtain⟨b,cs,t,sy,e0,hb,hg,hM,hr,JY,h1,hq,fb,hj⟩:=hm.linked bf
 have Vz:=(kN hq).1
 unfold Dh at h
 split at h
 ·rename_i e l Hd
  obtain⟨z,hz,EY,Hc,yg⟩:=o4 h
  obtain⟨M',ix,hV,hM'⟩:=Tr.freeze hm Hd
  refine⟨z,_,M',hz,ix,λi=> ?_,.inr ⟨e,l,Hd,rfl⟩,b,cs,t,hb,hg,?_,?_⟩
  ·by_cases hi:i=j
   ·subst hi;exact .inr ⟨e,l,Hd,ax _ _ _⟩
   ·exact .inl (az _ _ hi)
  ·refine(hM' b).2 ⟨hM,λhjb=> ?_⟩
   have jB:j≠id:=λe=>by rw[e,bf]at Hd;cases Hd
   exact hm.zW j id _ _ b jB Hd trivial bf trivial hjb (by rw[hb];rfl)
  ·rw[JY]
   exact yg w M' sy [ν j] Vz (hr.cc ix.cc) (V.slice.1 hV)
 ·rename_i e l Hd
  obtain⟨z,hz,EY,Hc,yg⟩:=o4 h
  have mM:=hm.la j _ Hd
  simp only[ER]at mM
  refine⟨z,_,M,hz,.refl hm,.refl H,.inl ⟨e,l,Hd,rfl⟩,b,cs,t,hb,hg,hM,?_⟩
  rw[JY]
  exact yg w M sy [ν j] Vz hr mM.1
 ·cases h
theorem akO{τ υ:Ty}{t:TypeId}(hE:EnvTy P E)(ht:E.ty t=some τ)(h:gO ([]:List Step) υ τ=true):υ=τ:=bz h
theorem Rd.agZ{e:Ty}{v:Value}{cs:List Value}{l:List e.den}(h:Rd w M (.slice e) cs l): ∃a n cap,cs=[.slice a n cap]:=by
 simp only[Rd]at h
 obtain⟨a,cap,rfl,_⟩:=h
 exact⟨a,_,cap,rfl⟩
theorem Hr{ρ:Operand→Value}{t:TypeId}{x:Operand}(ho:o.op= .load t x){τ:Ty}(h:kL P τ t)(ha:τ.isAgg=false){b off:Nat}{v:Value}(hx:ρ x= .pointer (some ⟨b,off,none⟩))(hc:w.cell? ⟨b,off,none⟩=some v):
  (execOp ρ o).run P w= .ok (.value v) w:=by
 have:(loadVar t ⟨b,off,none⟩).run P w= .ok v w:=by
  simp[loadVar,tH h,ha,load,Sem.run,hc]
 simp[execOp,ho,hx,Instr.loadAt,Instr.sureAddr,this]
theorem Ms(hE:EnvTy P E)(hc:Core c σ a.tmps w M ν){t:TypeId}{x:Operand}(ho:o.op= .load t x){K:jf α}{τ:Ty}(ht:E.ty t=some τ)
  (h:kW (σ.ρ x) σ.H (fun υ y rd=>c8 υ τ y λz=>K (.val τ z) rd [])=some r) (hn:gg c σ a o w M ν K r next):o.wp P a w next Q:=by
 obtain⟨υ,y,rd,h,b,off,cs,hu,p5,hr⟩:=Cs hc.mem (hc.ev x) h
 obtain⟨e,h⟩:=bC h
 subst e
 refine a8 (wx ho (hE.ty t _ ht) hu p5 hr) (hn _ _ _ _ _ _ _ h (.refl hc.mem) ?_)
 simp only[VR]
 exact V.cM hr
theorem Zm(hE:EnvTy P E)(hc:Core c σ a.tmps w M ν){t:TypeId}{x:Operand}(ho:o.op= .load t x){K:jf α}{τ:Ty}(ht:E.ty t=some τ)
  (h:vm τ (σ.ρ x) σ.H K=some r) (hn:gg c σ a o w M ν K r next):o.wp P a w next Q:=by
 unfold vm at h
 simp only at h
 split at h
 ·rename_i id p hx
  split at h
  ·rename_i υ z q j bf
   have hv:=hc.ev x
   rw[hx]at hv
   simp only[VR]at hv
   obtain⟨e1,P6,nR⟩:=hv
   rw[bf]at P6;cases P6
   simp only[AR]at nR
   obtain⟨hi,b,hb,hu⟩:=nR
   obtain⟨b',cs,te,sy,e0,eZ,hg,hM,hr,JY,h1,hq,fb,hj⟩:=hc.mem.linked bf
   rw[hb]at eZ;cases eZ
   cases hp:Me p q
   ·rw[hp]at h
    cases G8:yb p q
    ·
     rw[G8]at h
     simp only[av]at h
     obtain⟨υ',y,o',yh,h⟩:=ke h
     obtain⟨e2,h⟩:=bC h
     subst e2
     have hap:=yh.apart hi hq G8
     have ho':=yh.eq.2
     subst ho'
     have Hc:=yh.bound hi
     have hlen:=hr.length
     have kX:Rd w M υ' ((cs.toList.drop (cF p υ)).take υ'.size) y:=by
      rw[JY,JV (by simp only[aI];omega) (by simp only[aI];omega)]
      exact yh.rd hi hr
     refine a8 (wx ho (hE.ty t _ ht) hu (At.of_block hg _ _) kX) (hn _ _ _ _ _ M ν h (.refl hc.mem) ?_)
     simp only[VR]
     exact V.cM kX
    ·
     rw[G8]at h
     simp only[av,aq]at h
     obtain⟨z',ups,M',h,ix,_,_,b2,cs2,t2,ui,VA,JZ,yS⟩:=yR hc.mem bf h
     rw[hb]at ui;cases ui
     rw[hg]at VA;cases VA
     obtain⟨υ',y,o',yh,h⟩:=ke h
     obtain⟨e2,h⟩:=bC h
     subst e2
     have ho':=yh.eq.2
     subst ho'
     have kX:=yh.rd hi yS
     refine a8 (wx ho (hE.ty t _ ht) hu (At.of_block hg _ _) kX) (hn _ _ _ _ _ M' ν h ix ?_)
     simp only[VR]
     exact V.cM kX
   ·
    rw[hp]at h
    have:=Bp hp
    subst this
    simp only[aq]at h
    obtain⟨hpq,hK⟩:=cB h
    have hτ:τ= .slice e0:=(kN hpq).2.symm.trans (kN hq).2
    subst hτ
    have RE:w.cell? ⟨b,cF p υ,none⟩=some (ν j):=by rw[cell_of hg,←gV,JY,DW fb]
    refine a8 (Hr ho (hE.ty t _ ht) rfl hu RE) (hn _ _ _ _ _ M ν hK (.refl hc.mem) ?_)
    simp only[VR]
    exact⟨hj,trivial⟩
  ·exact Ms hE hc ho ht h hn
 ·exact Ms hE hc ho ht h hn
end VM
end
section
namespace VM
open Go
variable{P:Program}{E:Env}{o:Oper}{a:Act}{w:World}{M:Nat→Prop}{ν:Nat→Value}{σ:St}{c:Ctx}{α:Type}{r:α}{next:Act→World→Prop}{Q:Exit→Act→World→Prop}
theorem Fz.own{H H1:Nat→Option bh}(h:Fz H H1){i:Nat}{e:Ty}{l:List e.den}(hi:H i=some (.own e l)):H1 i=some (.own e l)∨H1 i=some (.oK e l):=by
 rcases h i with h'|⟨e',l',h1,h2⟩
 ·exact .inl (by rw[h',hi])
 ·rw[hi]at h1;cases h1;exact .inr h2
theorem Ta(hE:EnvTy P E)(hc:Core c σ a.tmps w M ν){t:TypeId}{x y:Operand}(ho:o.op= .store t x y){K:jf α}{τ:Ty}(ht:E.ty t=some τ)
  (h:mf τ (σ.ρ x) (σ.ρ y) σ.H K=some r) (hn:gg c σ a o w M ν K r next):o.wp P a w next Q:=by
 unfold mf at h
 split at h
 ·rename_i id p hx
  obtain⟨z,rd,ups,M',h,ix,hV,hz,kX⟩:=od (.refl _) hc.mem (hc.ev y) h
  have hv:=hc.ev x
  rw[hx]at hv
  have hvz:=VR.cc ix.cc ix.goes hv
  have z7:=hE.ty t τ ht
  have Mt:=hV.cells.length
  rw[bI]at Mt
  split at h
  ·rename_i υ x0 bf
   have pz:=hz.obj bf
   obtain⟨x1,hK,EY,Hc,yg⟩:=o4 h
   simp only[VR]at hvz
   obtain⟨e1,P6,nR⟩:=hvz
   rw[pz]at P6;cases P6
   simp only[AR]at nR
   obtain⟨hi,b,hb,hu⟩:=nR
   have mM:=ix.mem.la id _ pz
   simp only[ER]at mM
   obtain⟨b',cs,te,eZ,hg,hM,hr⟩:=mM
   rw[hb]at eZ;cases eZ
   have Hc:=Hc hi
   have Zk:=hr.length
   rw[bI]at Zk
   have dE:=nf (P:=P) ho z7 hu hg Mt ω hV.cells.oL
   rw[bI]at dE
   have wz:Tr c (c5 σ.H ups) w M' ν (bY (c5 σ.H ups) id (some (.obj υ x1))) (w.setRow b (fc cs.toList (cF p υ) (a.eval y).cells.toList).toArray) M' ν:=by
    refine Tr.write (e':= .obj υ x1) ix.mem pz trivial trivial rfl (by rw[hb];rfl) hg λPO hk Bs=> ?_
    simp only[ER]
    refine⟨b,_,te,hb,setRow_heap w b cs _ te _ hg,Bs,?_⟩
    exact(yg w M' cs.toList _ hi hr hV.cells).cc hk
   refine q3 dE ?_
   refine hn _ _ _ _ _ M' ν hK ?_ (by simp[VR])
   rw[gv]
   have:=ix.trans wz
   unfold fc at this
   rw[bI]at this
   exact this
  ·rename_i e l bf
   split at h
   ·rename_i i q h0
    obtain⟨z8,h⟩:=mB h
    have pz:c5 σ.H ups id=some (.own e l):=by rw[kX id z8];exact bf
    obtain⟨y1,hK,EY,Hc,yg⟩:=o4 h
    simp only[VR]at hvz
    obtain⟨e1,P6,nR⟩:=hvz
    rw[pz]at P6;cases P6
    simp only[AR]at nR
    obtain⟨i',q',hpq,Hp,hi,b,n,cp,hb,hu⟩:=nR
    cases hpq
    have mM:=ix.mem.la id _ pz
    simp only[ER]at mM
    rcases mM with⟨rfl,_⟩|⟨b',cs,te,cap,eZ,hg,hM,Vc,hl,G9,hs,hr⟩
    ·simp at Hp
    ·rw[hb]at eZ;cases eZ
     have Hc:=Hc hi
     have tG:=eB (s:=e.size) Hp
     have yB:l.length*e.size≤cp*e.size:=lO _ hl
     have dE:=nf (P:=P) ho z7 hu hg Mt ω hV.cells.oL
     rw[bI]at dE
     have hri:=hr i Hp
     rw[←kM l i e.zero Hp]at hri
     have pB:=yg w M' _ _ hi hri hV.cells
     have hch:((cs.toList.drop (i*e.size)).take e.size).length=e.size:=hri.length
     have Zn:fc cs.toList (i*e.size) (fc ((cs.toList.drop (i*e.size)).take e.size) (cF q e) (a.eval y).cells.toList)=fc cs.toList (i*e.size+cF q e) (a.eval y).cells.toList:=by
      have YY:=pB.length
      have e1:cs.toList=cs.toList.take (i*e.size)++(((cs.toList.drop (i*e.size)).take e.size)++cs.toList.drop (i*e.size+e.size)):=by
       rw[←jI,gl,gl]
      have fb:(cs.toList.take (i*e.size)).length=i*e.size:=by rw[cf,bI];omega
      conv=>rhs;rw[e1]
      rw[show i*e.size+cF q e=(cs.toList.take (i*e.size)).length+cF q e from by rw[fb],xz,zV (by rw[hch,bI];omega)]
      generalize fc ((cs.toList.drop (i*e.size)).take e.size) (cF q e) (a.eval y).cells.toList=m at YY ⊢
      unfold fc
      rw[YY,bu]
     have wz:Tr c (c5 σ.H ups) w M' ν (bY (c5 σ.H ups) id (some (.own e (List.set l i y1)))) (w.setRow b (fc cs.toList (i*e.size+cF q e) (a.eval y).cells.toList).toArray) M' ν:=by
      refine Tr.write (e':= .own e (List.set l i y1)) ix.mem pz trivial trivial ⟨rfl,by rw[bO]⟩ (by rw[hb];simp[fM];omega) hg λPO hk Bs=> ?_
      simp only[ER]
      refine .inr ⟨b,_,te,cp,by rw[bO];exact hb,setRow_heap w b cs _ te _ hg,Bs,Vc,by rw[bO];exact hl,G9,?_,?_⟩
      ·rw[←Zn,jd,gF (by rw[pB.length,bI];omega),bI];exact hs
      ·have h9:cs.toList.length=cp*e.size:=by rw[bI,hs]
       have h10:=qZ.set (w:=w) (M:=M') (cs:=cs.toList) (l:=l) hr (by rw[h9];exact yB) Hp pB
       rw[Zn]at h10
       exact λj hj=>(h10 j hj).cc hk
     refine q3 dE ?_
     refine hn _ _ _ _ _ M' ν hK ?_ (by simp[VR])
     rw[gv]
     have:=ix.trans wz
     unfold fc at this
     rw[bI]at this
     exact this
   ·cases h
  ·cases h
 ·cases h
theorem Fz.gk{H H1:Nat→Option bh}(h:Fz H H1){i:Nat}{τ:Ty}{x:τ.den}{p:List Step}{j:Nat}(hi:H i=some (.gk τ x p j)):H1 i=some (.gk τ x p j):=by
 rcases h i with h'|⟨e',l',h1,h2⟩
 ·rw[h',hi]
 ·rw[hi]at h1;cases h1
theorem yT{β:Type}{l a:List β}{o:Nat}(hl:o+a.length≤l.length)(i:Nat):(fc l o a)[i]? =if o≤i∧i<o+a.length then a[i-o]? else l[i]? :=by
 unfold fc
 by_cases h1:i<o
 ·rw[ah ω,bu,ss (by simp;omega),lR,aj h1]
 ·by_cases h2:i<o+a.length
  ·rw[aj ω,ss (by simp;omega),oI (by simp;omega)]
   simp[iE (show o≤l.length by omega)]
  ·rw[ah ω,oI (by simp;omega)]
   simp only[aS,cf,iE (show o≤l.length by omega),lS]
   congr 1;omega
theorem Mu{β:Type}{l a b:List β}{o o':Nat}(h:o'≤o∧o+a.length≤o'+b.length)(h1:o+a.length≤l.length)(h2:o'+b.length≤l.length):fc (fc l o a) o' b=fc l o' b:=by
 have l1:=gF (a:=l) (o:=o) (new:=a) h1
 apply zD
 intro i
 rw[yT ω,yT ω,yT ω]
 by_cases c1:o'≤i∧i<o'+b.length
 ·rw[aj c1,aj c1]
 ·rw[ah c1,ah c1,ah ω]
theorem Ii{β:Type}{l:List β}{o:Nat}{u v:β}(h:o<l.length):fc (fc l o [u]) o [v]=fc l o [v]:=
 Mu (by simp) (by simp;omega) (by simp;omega)
theorem VB{β:Type}{l a b:List β}{o o':Nat}(h:o+a.length≤o'∨o'+b.length≤o)(h1:o+a.length≤l.length)(h2:o'+b.length≤l.length):fc (fc l o a) o' b=fc (fc l o' b) o a:=by
 have l1:=gF (a:=l) (o:=o) (new:=a) h1
 have l2:=gF (a:=l) (o:=o') (new:=b) h2
 apply zD
 intro i
 rw[yT ω,yT ω,yT ω,yT ω]
 by_cases c1:o'≤i∧i<o'+b.length
 ·rw[aj c1,ah ω,aj c1]
 ·rw[ah c1]
  by_cases c2:o≤i∧i<o+a.length
  ·rw[aj c2,aj c2]
  ·rw[ah c2,ah c2,ah c1]
theorem Mv{m:(υ:Ty)→υ.den→(υ.den→Option α)→Option α}: ∀{τ:Ty} {x:τ.den} {n:Nat} {k:τ.den→Option α},m7 τ x n m k=some r→ ∃υ y o k',Dl τ x n υ y o∧m υ y k'=some r:=λh=>by
 obtain⟨υ,y,o,k',h1,h2,_⟩:=sB h
 exact⟨υ,y,o,k',h1,h2⟩
theorem EZ{υ:Ty}{u:υ.den}: ∀{p:List Step} {τ:Ty} {x:τ.den} {k:τ.den→Option α},vC υ u p τ x k=some r→ ∃y o,JU p τ x υ y o
 |[],τ,x,k,h=>by
  obtain⟨e,_⟩:=bC (h:c8 υ τ u k=some r)
  subst e
  exact⟨x,0,.nil x⟩
 | .kG n::p,τ,x,k,h=>by
  obtain⟨υ',y,o,k',hf,hm⟩:=Mv (h:m7 τ x n _ k=some r)
  obtain⟨y',o',hp⟩:=EZ (k:=k') hm
  exact⟨y',_,.kG hf hp⟩
 | .idx i::p,τ,x,k,h=>by
  cases τ with
  |arr n e=>
   obtain⟨y',o',hp⟩:=EZ (p:=p) (τ:=e) (x:=List.getD x i e.zero) (k:=λz=>k (List.set x i z)) h
   exact⟨y',_,.idx hp⟩
  |_=>simp[vC,DT]at h
theorem Ij: ∀{p q:List Step} {τ e:Ty},yb p q=true→gO q τ (.slice e)=true→cF p τ≤cF q τ∧cF q τ+1≤cF p τ+(Hl p τ).size
 |[],q,τ,e,_,hq=>by
  obtain⟨_,_,yh⟩:=tF hq τ.zero
  have:=yh.bound (kN hq).1
  have h2:=yh.eq.2
  have:(Ty.slice e).size=1:=rfl
  simp only[cF,Hl]
  omega
 | .kG a::p,.kG b::q,τ,e,hp,hq=>by
  simp only[yb,bQ]at hp
  have:=fW hp.1
  subst this
  unfold gO at hq
  split at hq
  ·rename_i c hc
   obtain⟨_,_,hf⟩:=tE hc τ.zero
   have:=hf.eq.1
   subst this
   have:=Ij hp.2 hq
   simp only[cF,Hl]
   omega
  ·cases hq
 | .kG _::_,[],_,_,hp,_| .kG _::_,.idx _::_,_,_,hp,_| .idx _::_,_,_,_,hp,_=>by simp[yb]at hp
theorem ER.Tb{H:Nat→Option bh}(hm:Mem c H w M ν){k:Nat}{e:Ty}{l:List e.den}(hk:H k=some (.own e l)): ∃ad cp,ν k= .slice ad l.length cp:=by
 have:=hm.la k _ hk
 simp only[ER]at this
 rcases this with⟨rfl,a,hv⟩|⟨b,cs,t,cap,hv,_⟩
 ·exact⟨a,0,hv⟩
 ·exact⟨_,cap,hv⟩
theorem E0(hE:EnvTy P E)(hc:Core c σ a.tmps w M ν){t:TypeId}{x y:Operand}(ho:o.op= .store t x y){K:jf α}{τ:Ty}(ht:E.ty t=some τ){id k:Nat}{q:List Step}{e:Ty}{υ:Ty}{z:υ.den}
  (hx:σ.ρ x= .jr id q) (hy:σ.ρ y= .ref k) {en:bh} (bf:σ.H id=some en) (hen:en.mut) (Ik:en.lq (.gk υ z q k)) (hq:gO q υ (.slice e)=true)
  (ly: ∃b cs te sy u,ν id= .pointer (some ⟨b,0,none⟩)∧w.heap[b]? =some (.cells cs te (0,0))∧Rd w M υ sy z∧cs.toList=fc sy (cF q υ) [u])
  (h:Cn τ id k e q υ z σ.H K=some r) (hn:gg c σ a o w M ν K r next):o.wp P a w next Q:=by
 unfold Cn at h
 split at h
 ·rename_i e' l hk
  obtain⟨e1,h1⟩:=fZ h
  clear h
  subst e1
  obtain⟨e2,h2⟩:=fZ h1
  clear h1
  subst e2
  obtain⟨z',hK,EY,Hc,yg⟩:=o4 h2
  obtain⟨b,cs,te,sy,u,hb,hg,hr,JY⟩:=ly
  have Vz:=(kN hq).1
  obtain⟨ad,cp,hνk⟩:=ER.Tb hc.mem hk
  have Dr:=hc.ev y
  rw[hy]at Dr
  simp only[VR]at Dr
  have Dr:=Dr.2
  have Hc:=Hc Vz
  have hlen:=hr.length
  have Ly:(Ty.slice e').size=1:=rfl
  have fb:cF q υ<sy.length:=ω
  have Mt:cs.toList.length=sy.length:=by rw[JY];exact gF (by simp;omega)
  have hv:=hc.ev x
  rw[hx]at hv
  simp only[VR]at hv
  obtain⟨e3,he3,nR⟩:=hv
  rw[bf]at he3;cases he3
  have nR:=nR.lq Ik
  simp only[AR]at nR
  obtain⟨_,b',eZ,hu⟩:=nR
  rw[hb]at eZ;cases eZ
  have hyc:(a.eval y).cells.toList=[ν k]:=by rw[Dr,hνk];rfl
  have tf:(a.eval y).cells.size=(Ty.slice e').size:=by rw[←bI,hyc];rfl
  have dE:=nf (P:=P) ho (hE.ty t _ ht) hu hg tf (by rw[←bI];omega) (by rw[hyc,hνk];simp[Value.oneCell'])
  have pB:(cs.toList.take (cF q υ)++(a.eval y).cells.toList++cs.toList.drop (cF q υ+(a.eval y).cells.toList.length))=fc sy (cF q υ) [ν k]:=by
   rw[hyc]
   show fc cs.toList (cF q υ) [ν k]=_
   rw[JY,Ii fb]
  rw[pB]at dE
  have hrz:Rd w M υ (fc sy (cF q υ) [.slice none 0 0]) z':=yg w M sy [.slice none 0 0] Vz hr (Rd.zero w M (.slice e'))
  have ix:Tr c σ.H w M ν (bY σ.H id (some (.gk υ z' q k))) (w.setRow b (fc sy (cF q υ) [ν k]).toArray) M ν:=by
   refine Tr.write (e':= .gk υ z' q k) hc.mem bf hen trivial (by cases en<;>simp only[bh.lq]at Ik ⊢ <;>exact Ik) (by rw[hb];rfl) hg (λPO Hs Bs=> ?_) (fun τ' x' p' j' hl=> ?_)
   ·simp only[ER]
    refine⟨b,_,te,fc sy (cF q υ) [.slice none 0 0],ν k,hb,setRow_heap w b cs _ te _ hg,Bs,hrz.cc Hs,?_,by rw[hνk];rfl,e',hq⟩
    rw[Ii fb]
   ·cases hl
    refine⟨by rw[hk];simp,b,hb,?_⟩
    rw[cell_of (setRow_heap w b cs _ te _ hg),←gV]
    show(fc sy (cF q υ) [ν k])[cF q υ]? =_
    rw[DW fb]
  exact q3 dE (hn _ _ _ _ _ M ν hK ix (by simp[VR]))
 ·cases h
theorem E1(hE:EnvTy P E)(hc:Core c σ a.tmps w M ν){t:TypeId}{x y:Operand}(ho:o.op= .store t x y){K:jf α}{τ:Ty}(ht:E.ty t=some τ)
  (h:kb E τ (σ.ρ x) (σ.ρ y) σ.H K=some r) (hn:gg c σ a o w M ν K r next):o.wp P a w next Q:=by
 have hold:mf τ (σ.ρ x) (σ.ρ y) σ.H K=some r→o.wp P a w next Q:=λh=>Ta hE hc ho ht h hn
 unfold kb at h
 simp only at h
 split at h
 ·rename_i id p hx
  have o0:=hx
  split at h
  ·rename_i υ z bf
   split at h
   ·rename_i q e k sZ hy
    cases hp:Me p q
    ·rw[hp]at h;exact hold h
    ·rw[hp]at h
     simp only[aq]at h
     have:=Bp hp
     subst this
     have hq:=tJ sZ
     have mM:=hc.mem.la id _ bf
     simp only[ER]at mM
     obtain⟨b,cs,te,hb,hg,hM,hr⟩:=mM
     have fb:cF p υ<cs.toList.length:=by
      obtain⟨_,_,yh⟩:=tF hq z
      have:=yh.bound (kN hq).1
      have h2:=yh.eq.2
      have:=hr.length
      have:(Ty.slice e).size=1:=rfl
      omega
     refine E0 hE hc ho ht hx hy bf trivial rfl hq ⟨b,cs,te,cs.toList,cs.toList[cF p υ],hb,hg,hr,?_⟩ h hn
     exact(Mn (bl fb)).symm
   ·exact hold h
  ·rename_i υ z q j bf
   obtain⟨b,cs,te,sy,e0,hb,hg,hM,hr,JY,h1,hq,fb,hj⟩:=hc.mem.linked bf
   have Aa:mc true (σ.ρ y) σ.H τ (λy rd ups=>vC τ y p υ z λz=>K .any (id::rd) (ups++[(id,some (cond (yb p q) (.obj υ z) (.gk υ z q j)))]))=some r→o.wp P a w next Q:=by
    intro h
    obtain⟨u,rd,ups,M',h,ix,hV,hz,kX⟩:=od (.refl _) hc.mem (hc.ev y) h
    have pz:=hz.gk bf
    have hv:=hc.ev x
    rw[hx]at hv
    have hvz:=VR.cc ix.cc ix.goes hv
    simp only[VR]at hvz
    obtain⟨e1,P6,nR⟩:=hvz
    rw[pz]at P6;cases P6
    simp only[AR]at nR
    obtain⟨hi,b1,mA,hu⟩:=nR
    rw[hb]at mA;cases mA
    obtain⟨b2,cs2,te2,cs3,e3,ui,VA,JZ,yS,Zo,h12,YZ,alB,hj2⟩:=ix.mem.linked pz
    rw[hb]at ui;cases ui
    rw[hg]at VA;cases VA
    obtain⟨z',hK,EY,Hc,yg⟩:=o4 h
    have Hc:=Hc hi
    have Zk:=yS.length
    have Mt:cs.toList.length=cs3.length:=by rw[Zo];exact gF (by simp;omega)
    have hcy:=hV.cells.length
    rw[bI]at hcy
    have ax0:(a.eval y).cells.toList.length=τ.size:=by rw[bI];exact hcy
    have dE:=nf (P:=P) ho (hE.ty t _ ht) hu hg hcy (by rw[←bI];omega) hV.cells.oL
    have VC:cs.toList.take (cF p υ)++(a.eval y).cells.toList++cs.toList.drop (cF p υ+(a.eval y).cells.toList.length)=fc cs.toList (cF p υ) (a.eval y).cells.toList:=rfl
    rw[VC]at dE
    have hzr:=yg w M' cs3 _ hi yS hV.cells
    have fin: ∀e',e'.mut→bh.lq (.gk υ z q j) e'→K .any (id::rd) (ups++[(id,some e')])=some r→(∀PO,fa w M' (w.setRow b (fc cs.toList (cF p υ) (a.eval y).cells.toList).toArray) PO→PO b→ER (w.setRow b (fc cs.toList (cF p υ) (a.eval y).cells.toList).toArray) PO (ν id) e')→
      (∀τ' x' p' j',e'= .gk τ' x' p' j'→(c5 σ.H ups) j'≠none∧ ∃b',ν id= .pointer (some ⟨b',0,none⟩)∧(w.setRow b (fc cs.toList (cF p υ) (a.eval y).cells.toList).toArray).cell? ⟨b',cF p' τ',none⟩=some (ν j'))→o.wp P a w next Q:=by
     intro e' jT JT hK S6 sZ
     have wz:=Tr.write (e':=e') ix.mem pz trivial jT JT (by rw[hb];rfl) hg S6 sZ
     refine q3 dE (hn _ _ _ _ _ M' ν hK ?_ (by simp[VR]))
     rw[gv]
     exact ix.trans wz
    cases G8:yb p q
    ·rw[G8]at hK
     simp only[av]at hK
     obtain⟨yy,oo,yh⟩: ∃y o,JU p υ z τ y o:=EZ h
     have hap:=yh.apart hi hq G8
     have hoo:=yh.eq.2
     subst hoo
     have afN:fc cs.toList (cF p υ) (a.eval y).cells.toList=fc (fc cs3 (cF p υ) (a.eval y).cells.toList) (cF q υ) [ν j]:=by
      rw[Zo]
      exact VB (by simp only[aI];omega) (by simp only[aI];omega) ω
     have YY:=gF (a:=cs3) (o:=cF p υ) (new:=(a.eval y).cells.toList) ω
     refine fin (.gk υ z' q j) trivial rfl hK (λPO hk Bs=> ?_) (fun τ' x' p' j' hl=> ?_)
     ·simp only[ER]
      exact⟨b,_,te,_,ν j,hb,setRow_heap w b cs _ te _ hg,Bs,hzr.cc hk,afN,h1,e0,hq⟩
     ·cases hl
      refine⟨hj2,b,hb,?_⟩
      rw[cell_of (setRow_heap w b cs _ te _ hg),←gV]
      show(fc cs.toList (cF p υ) (a.eval y).cells.toList)[cF q υ]? =_
      rw[afN,DW ω]
    ·rw[G8]at hK
     simp only[aq]at hK
     refine fin (.obj υ z') trivial rfl hK (λPO hk Bs=> ?_) (fun τ' x' p' j' hl=>by cases hl)
     simp only[ER]
     refine⟨b,_,te,hb,setRow_heap w b cs _ te _ hg,Bs,?_⟩
     show Rd _ _ υ (fc cs.toList (cF p υ) (a.eval y).cells.toList) z'
     have lW:=Ij G8 hq
     rw[EY]at lW
     have ho:fc cs.toList (cF p υ) (a.eval y).cells.toList=fc cs3 (cF p υ) (a.eval y).cells.toList:=by
      rw[Zo]
      exact Mu (by simp only[aI];omega) (by simp only[aI];omega) ω
     have h9:=hzr.cc hk
     rw[←ho]at h9
     exact h9
   split at h
   ·rename_i q' e k sZ hy
    cases hp:(Me p q&&Me q q')
    ·rw[hp]at h;exact Aa h
    ·rw[hp]at h
     simp only[aq]at h
     rw[bQ]at hp
     have:=Bp hp.1
     subst this
     have:=Bp hp.2
     subst this
     refine E0 hE hc ho ht hx hy bf trivial rfl (tJ sZ) ⟨b,cs,te,sy,ν j,hb,hg,hr,JY⟩ h hn
   ·exact Aa h
  ·exact hold h
 ·exact hold h
theorem Tc(hE:EnvTy P E)(hc:Core c σ a.tmps w M ν){t:TypeId}{x y:Operand}(ho:o.op= .store t x y){K:jf α}{τ:Ty}(ht:E.ty t=some τ)
  (h:sW E τ (σ.ρ x) (σ.ρ y) σ.H K=some r) (hn:gg c σ a o w M ν K r next):o.wp P a w next Q:=by
 unfold sW at h
 split at h
 ·rename_i id υ z n hx hy
  split at h
  ·rename_i m e sZ
   cases EX:Nat.beq m n
   ·rw[EX]at h
    simp only[av]at h
    exact E1 hE hc ho ht h hn
   ·rw[EX]at h
    simp only[aq]at h
    have EX:=fW EX
    subst EX
    obtain⟨e1,h1⟩:=fZ h
    clear h
    subst e1
    have hq:=tJ sZ
    have Dr:=hc.ev y
    rw[hy]at Dr
    simp only[VR]at Dr
    obtain⟨hV,cs,ad,hva,hz⟩:=Dr
    have hcy:(a.eval y).cells=cs:=by rw[hva];rfl
    obtain⟨en,bf,hen,hK⟩: ∃en:bh,σ.H id=some en∧(∃z0,en= .obj τ z0∨ ∃q j,en= .gk τ z0 q j)∧σ.H (id+2)=none∧K .any [id,id+2] [(id,some (.gk τ z [.kG m] (id+2))),(id+2,some (.own e []))]=some r:=by
     unfold m9 at h1
     split at h1
     ·rename_i υ z0 bf
      obtain⟨e2,h2⟩:=fZ h1
      clear h1
      subst e2
      obtain⟨h3,h4⟩:=lx h2
      exact⟨_,bf,⟨z0,.inl rfl⟩,h3,h4⟩
     ·rename_i υ z0 q j bf
      obtain⟨e2,h2⟩:=fZ h1
      clear h1
      subst e2
      obtain⟨h3,h4⟩:=lx h2
      exact⟨_,bf,⟨z0,.inr ⟨q,j,rfl⟩⟩,h3,h4⟩
     ·cases h1
     ·cases h1
     ·cases h1
    obtain⟨hk,hK⟩:=hK
    have aqY:en.mut:=by rcases hen with⟨z0,rfl|⟨q,j,rfl⟩⟩<;>trivial
    have Ik:en.lq (.obj τ z):=by rcases hen with⟨z0,rfl|⟨q,j,rfl⟩⟩<;>rfl
    obtain⟨b,sy,te,hb,hg,tf⟩: ∃b sy te,ν id= .pointer (some ⟨b,0,none⟩)∧w.heap[b]? =some (.cells sy te (0,0))∧sy.toList.length=τ.size:=by
     rcases hen with⟨z0,rfl|⟨q,j,rfl⟩⟩
     ·have:=hc.mem.la id _ bf
      simp only[ER]at this
      obtain⟨b,sy,te,h2,h3,_,h5⟩:=this
      exact⟨b,sy,te,h2,h3,h5.length⟩
     ·obtain⟨b,sy,te,zo,_,h2,h3,_,h5,h6,_,_,h7,_⟩:=hc.mem.linked bf
      refine⟨b,sy,te,h2,h3,?_⟩
      rw[h6,gF (by simp only[aI];omega),h5.length]
    have hv:=hc.ev x
    rw[hx]at hv
    simp only[VR]at hv
    obtain⟨e3,he3,nR⟩:=hv
    rw[bf]at he3;cases he3
    have nR:=nR.lq Ik
    simp only[AR]at nR
    obtain⟨_,b',eZ,hu⟩:=nR
    rw[hb]at eZ;cases eZ
    have Mt:=hV.cells.length
    have dE:=nf (P:=P) ho (hE.ty t _ ht) hu hg (by rw[←bI];exact Mt) (by rw[←bI,tf];simp[cF]) hV.cells.oL
    have VC:sy.toList.take (cF [] τ)++(a.eval y).cells.toList++sy.toList.drop (cF [] τ+(a.eval y).cells.toList.length)=(a.eval y).cells.toList:=by
     simp only[cF,oW,cL,gq]
     rw[kI ω,ck]
    rw[VC]at dE
    have yg:=setRow_heap w b sy (a.eval y).cells.toList.toArray te _ hg
    have ix:=Tr.write (e':= .obj τ z) (new:=(a.eval y).cells.toList.toArray) hc.mem bf aqY trivial Ik (by rw[hb];rfl) hg (λPO Hs Bs=>by
     simp only[ER]
     exact⟨b,_,te,hb,yg,Bs,hV.cells.cc Hs⟩)
    have jB:id+2≠id:=ω
    have wz:=Tr.Vx ix.mem (id:=id) (k:=id+2) (by rw[az _ _ jB];exact hk) (ax _ _ _) hb yg hq (ad:=ad) (by rw[hcy];simpa [cF]using hz)
    have e1:c5 (bY σ.H id (some (.obj τ z))) [(id,some (.gk τ z [.kG m] (id+2))),(id+2,some (.own e []))]=c5 σ.H [(id,some (.gk τ z [.kG m] (id+2))),(id+2,some (.own e []))]:=by
     show bY (bY (bY σ.H id _) id _) (id+2) _=bY (bY σ.H id _) (id+2) _
     rw[yQ]
    rw[e1]at wz
    exact q3 dE (hn _ _ _ _ _ _ _ hK (ix.trans wz) (by simp[VR]))
  ·exact E1 hE hc ho ht h hn
 ·exact E1 hE hc ho ht h hn
end VM
end
section
namespace VM
open Go
variable{P:Program}{E:Env}{o:Oper}{a:Act}{w:World}{M:Nat→Prop}{ν:Nat→Value}{σ:St}{c:Ctx}{α:Type}{r:α}{next:Act→World→Prop}{Q:Exit→Act→World→Prop}
theorem nb{n:Nat}(h:Nat.beq n 0=false):n≠0:=by rw[←m0,we]at h;exact h
theorem At.sub{b off:Nat}{cs:List Value}(h:At w b off cs)(o n:Nat):At w b (off+o) ((cs.drop o).take n):=by
 intro j v hj
 rw[lR]at hj
 split at hj
 ·rw[lS]at hj
  have:=h _ v hj
  rwa [←oX]at this
 ·cases hj
def wA:bh→List Step→Option Ty
 | .obj τ _,p=>some (Hl p τ)
 | .gk τ _ _ _,p=>some (Hl p τ)
 | .own e _,.idx _::p| .oK e _,.idx _::p=>some (Hl p e)
 |_,_=>none
theorem E2{id:Nat}{p:List Step}{H:Nat→Option bh}{k:Ty→Option α}(h:m9 id p H k=some r): ∃e υ,H id=some e∧wA e p=some υ∧k υ=some r:=by
 unfold m9 at h
 split at h
 ·rename_i τ x bf
  obtain⟨υ,y,o,hp,hk⟩:=ke h
  exact⟨_,υ,bf,by simp[wA,hp.eq.1],hk⟩
 ·rename_i τ x _ _ bf
  obtain⟨υ,y,o,hp,hk⟩:=ke h
  exact⟨_,υ,bf,by simp[wA,hp.eq.1],hk⟩
 ·rename_i e l bf
  split at h
  ·obtain⟨υ,y,o,hp,hk⟩:=ke h
   exact⟨_,υ,bf,by simp[wA,hp.eq.1],hk⟩
  ·cases h
 ·rename_i e l bf
  split at h
  ·obtain⟨υ,y,o,hp,hk⟩:=ke h
   exact⟨_,υ,bf,by simp[wA,hp.eq.1],hk⟩
  ·cases h
 ·cases h
theorem AR.step{v:Value}{p:List Step}{u:Value}{e:bh}{υ:Ty}(h:AR v p u e)(ht:wA e p=some υ)(s:Step)(hs:ye [s] υ):
  ∃b off,u= .pointer (some ⟨b,off,none⟩)∧AR v (p++[s]) (.pointer (some ⟨b,off+cF [s] υ,none⟩)) e:=by
 cases e with
 |obj τ x=>
  simp only[wA,iC]at ht
  simp only[AR]at h ⊢
  obtain⟨hi,b,hb,rfl⟩:=h
  subst ht
  exact⟨b,_,rfl,(sx p [s] τ).2 ⟨hi,hs⟩,b,hb,by rw[sv]⟩
 |gk τ x _ _=>
  simp only[wA,iC]at ht
  simp only[AR]at h ⊢
  obtain⟨hi,b,hb,rfl⟩:=h
  subst ht
  exact⟨b,_,rfl,(sx p [s] τ).2 ⟨hi,hs⟩,b,hb,by rw[sv]⟩
 |own e l=>
  simp only[AR]at h ⊢
  obtain⟨i,q,rfl,Hp,hi,b,n,cp,hb,rfl⟩:=h
  simp only[wA,iC]at ht
  subst ht
  exact⟨b,_,rfl,i,q++[s],rfl,Hp,(sx q [s] e).2 ⟨hi,hs⟩,b,n,cp,hb,by rw[sv,oX]⟩
 |oK e l=>
  simp only[AR]at h ⊢
  obtain⟨i,q,rfl,Hp,hi,b,n,cp,hb,rfl⟩:=h
  simp only[wA,iC]at ht
  subst ht
  exact⟨b,_,rfl,i,q++[s],rfl,Hp,(sx q [s] e).2 ⟨hi,hs⟩,b,n,cp,hb,by rw[sv,oX]⟩
 |gone=>simp[wA]at ht
theorem Bt(hE:EnvTy P E)(hc:Core c σ a.tmps w M ν){t:TypeId}{x:Operand}{n:Nat}(ho:o.op= .fieldAddr t x n){K:jf α}{τ:Ty}(ht:E.ty t=some τ){id:Nat}{p:List Step}(hx:σ.ρ x= .jr id p)
  (h:m9 id p σ.H (fun υ=>m8 υ τ (yc τ τ.zero n fun υ' _=>cond (Nat.beq υ'.size 0) none (K (.jr id (p++[.kG n])) [id] [])))=some r) (hn:gg c σ a o w M ν K r next):o.wp P a w next Q:=by
 obtain⟨e,υ,bf,het,h⟩:=E2 h
 obtain⟨he_,h_⟩:=fZ h
 clear h
 subst he_
 have h:=h_
 clear h_
 obtain⟨υ',y,of,hf,h⟩:=tD h
 obtain⟨hz,h⟩:=mB h
 have hv:=hc.ev x
 rw[hx]at hv
 simp only[VR]at hv
 obtain⟨e',wu,nR⟩:=hv
 rw[bf]at wu;cases wu
 obtain⟨b,off,hu,ag3⟩:=nR.step het (.kG n) trivial
 obtain⟨fs,f,PQ,hff,hfo,Td⟩:=(hE.ty t υ ht).kG hf
 obtain⟨v,dE,hvv⟩:=tI (P:=P) ho (w:=w) PQ hff Td (nb hz) hu
 refine a8 dE (hn _ _ _ _ _ M ν h (.refl hc.mem) ?_)
 simp only[VR]
 refine⟨e,bf,?_⟩
 rw[hvv,hfo,hf.eq.2]
 simpa [cF]using ag3
theorem Ab(hE:EnvTy P E)(hc:Core c σ a.tmps w M ν){t:TypeId}{x:Operand}{n:Nat}(ho:o.op= .fieldAddr t x n){K:jf α}{τ:Ty}(ht:E.ty t=some τ){υ:Ty}{z:υ.den}(hx:σ.ρ x= .qT υ z)
  (h:m8 υ τ (yc υ z n fun υ y=>cond (Nat.beq υ.size 0) none (K (.qT υ y) [] []))=some r) (hn:gg c σ a o w M ν K r next):o.wp P a w next Q:=by
 obtain⟨he,h1⟩:=fZ h
 subst he
 obtain⟨υ',y,of,hf,h⟩:=tD h1
 obtain⟨hz,h⟩:=mB h
 have hv:=hc.ev x
 rw[hx]at hv
 simp only[VR]at hv
 obtain⟨b,off,hu,hb,hM,cs,p5,hr⟩:=hv
 obtain⟨fs,f,PQ,hff,hfo,Td⟩:=(hE.ty t υ ht).kG hf
 obtain⟨v,dE,hvv⟩:=tI (P:=P) ho (w:=w) PQ hff Td (nb hz) hu
 refine a8 dE (hn _ _ _ _ _ M ν h (.refl hc.mem) ?_)
 simp only[VR]
 exact⟨b,off+f.offset,hvv,hb,hM,_,by rw[hfo];exact p5.sub of υ'.size,hf.rd hr⟩
theorem V.agg{τ:Ty}(ha:τ.isAgg=true){v:Value}{x:τ.den}(h:V w M τ v x): ∃cs,v= .agg cs∧Rd w M τ cs.toList x:=by
 unfold V at h;rw[aj ha]at h;exact h
theorem Dl.agg{τ:Ty}{x:τ.den}{n:Nat}{υ:Ty}{y:υ.den}{o:Nat}(h:Dl τ x n υ y o):τ.isAgg=true:=by cases h<;>rfl
theorem VE(hE:EnvTy P E)(hc:Core c σ a.tmps w M ν){t:TypeId}{x:Operand}{n:Nat}(ho:o.op= .field t x n){K:jf α}{τ:Ty}(ht:E.ty t=some τ){υ:Ty}{z:υ.den}(hx:σ.ρ x= .val υ z)
  (h:m8 υ τ (yc υ z n fun υ y=>K (.val υ y) [] [])=some r) (hn:gg c σ a o w M ν K r next):o.wp P a w next Q:=by
 obtain⟨he,h1⟩:=fZ h
 subst he
 obtain⟨υ',y,of,hf,h⟩:=tD h1
 have hv:=hc.ev x
 rw[hx]at hv
 simp only[VR]at hv
 obtain⟨cs,hu,hr⟩:=hv.agg hf.agg
 obtain⟨fs,f,PQ,hff,hfo,Td⟩:=(hE.ty t υ ht).kG hf
 have eO:=hf.rd hr
 refine a8 (JX ho PQ hff Td hu (by rw[hfo];exact eO)) (hn _ _ _ _ _ M ν h (.refl hc.mem) ?_)
 simp only[VR]
 rw[hfo]
 exact V.cM eO
theorem J0(hE:EnvTy P E)(hc:Core c σ a.tmps w M ν){t:TypeId}{x i:Operand}(ho:o.op= .indexAddr t x i){K:jf α}{τ:Ty}(ht:E.ty t=some τ)
  (h:gE τ (σ.ρ x) (σ.ρ i) σ.H K=some r) (hn:gg c σ a o w M ν K r next):o.wp P a w next Q:=by
 unfold gE at h
 obtain⟨k,n,hi,h2⟩:=ng h
 clear h
 have h:=h2
 clear h2
 have RF:=hc.ev i
 rw[hi]at RF
 have RF:=RF.int
 have hv:=hc.ev x
 have z7:=hE.ty t τ ht
 split at h
 ·
  rename_i e
  obtain⟨e',PQ,hle⟩:=z7.slice
  split at h
  ·rename_i υ l hx
   obtain⟨e1,h⟩:=bC h
   subst e1
   obtain⟨lW,h⟩:=cB h
   obtain⟨h0,h1⟩:=uB lW
   have h1:n<(List.length l:Int):=h1
   rw[hx]at hv
   simp only[VR]at hv
   have hv:=V.slice.1 hv
   simp only[Rd,fi,eT]at hv
   obtain⟨ad,cap,hu,alE,hr⟩:=hv
   obtain⟨b,off,rfl,hb,hM,cs,p5,kX⟩:=hr n.toNat ω
   refine a8 (ld ho PQ hle hu RF h0 h1) (hn _ _ _ _ _ M ν h (.refl hc.mem) ?_)
   simp only[VR]
   refine⟨b,_,rfl,hb,hM,cs,p5,?_⟩
   have:Rd w M e cs (List.getD l n.toNat e.zero):=by rw[kM l n.toNat e.zero ω];exact kX
   exact this
  ·rename_i id hx
   rw[hx]at hv
   simp only[VR]at hv
   obtain⟨_,hu⟩:=hv
   split at h
   ·rename_i e2 l bf
    obtain⟨he_,h_⟩:=fZ h
    clear h
    subst he_
    have h:=h_
    clear h_
    obtain⟨lW,h⟩:=cB h
    obtain⟨h0,h1⟩:=uB lW
    have mM:=hc.mem.la id _ bf
    simp only[ER]at mM
    rcases mM with⟨rfl,_⟩|⟨b,cs,te,cap,hb,hg,hM,Vc,hl,G9,hs,hr⟩
    ·simp at h1;omega
    ·rw[hb]at hu
     refine a8 (ld ho PQ hle hu RF h0 h1) (hn _ _ _ _ _ M ν h (.refl hc.mem) ?_)
     simp only[VR]
     refine⟨_,bf,?_⟩
     simp only[AR]
     exact⟨n.toNat,[],rfl,ω,trivial,b,_,_,hb,by simp[cF]⟩
   ·rename_i e2 l bf
    obtain⟨he_,h_⟩:=fZ h
    clear h
    subst he_
    have h:=h_
    clear h_
    obtain⟨lW,h⟩:=cB h
    obtain⟨h0,h1⟩:=uB lW
    have mM:=hc.mem.la id _ bf
    simp only[ER]at mM
    obtain⟨kX,hhd⟩:=mM
    simp only[Rd,fi,eT]at kX
    obtain⟨ad,cap,hb,alE,hr⟩:=kX
    rcases hhd with⟨rfl,_⟩|⟨b,n2,c2,ui⟩
    ·simp at h1;omega
    ·rw[hb]at ui;cases ui
     rw[hb]at hu
     refine a8 (ld ho PQ hle hu RF h0 h1) (hn _ _ _ _ _ M ν h (.refl hc.mem) ?_)
     simp only[VR]
     refine⟨_,bf,?_⟩
     simp only[AR]
     exact⟨n.toNat,[],rfl,ω,trivial,b,_,_,hb,by simp[cF]⟩
   ·cases h
  ·cases h
 ·
  rename_i len e
  obtain⟨e',PQ,hle⟩:=z7.arr
  split at h
  ·rename_i id p hx
   obtain⟨en,υ,bf,het,h⟩:=E2 h
   obtain⟨he_,h_⟩:=fZ h
   clear h
   subst he_
   have h:=h_
   clear h_
   obtain⟨lW,h⟩:=cB h
   obtain⟨h0,h1⟩:=uB lW
   rw[hx]at hv
   simp only[VR]at hv
   obtain⟨en',wu,nR⟩:=hv
   rw[bf]at wu;cases wu
   obtain⟨b,off,hu,ag3⟩:=nR.step het (.idx n.toNat) ⟨⟨len,e,rfl,ω⟩,trivial⟩
   refine a8 (sA ho PQ hle hu RF h0 h1) (hn _ _ _ _ _ M ν h (.refl hc.mem) ?_)
   simp only[VR]
   refine⟨en,bf,?_⟩
   simpa [cF,elT]using ag3
  ·rename_i υ l hx
   obtain⟨e1,h⟩:=bC h
   subst e1
   obtain⟨lW,h⟩:=cB h
   obtain⟨h0,h1⟩:=uB lW
   rw[hx]at hv
   simp only[VR]at hv
   obtain⟨b,off,hu,hb,hM,cs,p5,hr⟩:=hv
   refine a8 (sA ho PQ hle hu RF h0 h1) (hn _ _ _ _ _ M ν h (.refl hc.mem) ?_)
   simp only[VR]
   exact⟨b,_,rfl,hb,hM,_,p5.sub _ e.size,hr.idx ω⟩
  ·cases h
 ·cases h
theorem Ds(hc:Core c σ a.tmps w M ν){x:Operand}(ho:o.op= .nilCheck x){K:jf α}{id:Nat}{p:List Step}(hx:σ.ρ x= .jr id p)
  (h:K (.jr id p) [] []=some r) (hn:gg c σ a o w M ν K r next):o.wp P a w next Q:=by
 have hv:=hc.ev x
 have VF:=hv
 rw[hx]at hv
 simp only[VR]at hv
 obtain⟨e,he,nR⟩:=hv
 obtain⟨ad,hu⟩:=nR.ptr
 refine a8 (vo ho hu) (hn _ _ _ _ _ M ν h (.refl hc.mem) ?_)
 rw[←hu,←hx];exact VF
theorem Bu(hc:Core c σ a.tmps w M ν){x:Operand}(ho:o.op= .nilCheck x){K:jf α}{τ:Ty}{z:τ.den}(hx:σ.ρ x= .qT τ z)
  (h:K (.qT τ z) [] []=some r) (hn:gg c σ a o w M ν K r next):o.wp P a w next Q:=by
 have hv:=hc.ev x
 have VF:=hv
 rw[hx]at hv
 simp only[VR]at hv
 obtain⟨b,off,hu,_⟩:=hv
 refine a8 (vo ho hu) (hn _ _ _ _ _ M ν h (.refl hc.mem) ?_)
 rw[←hu,←hx];exact VF
theorem jt.get{H:Nat→Option bh}: ∀{p3:List bD} {vs:List Value},jt w M H ν p3 vs→ ∀{i:Nat} {x:bD},p3[i]? =some x→ ∃v,vs[i]? =some v∧VR w M H ν x v
 |[],_,_,i,x,hx=>by simp at hx
 |y::p3,[],h,_,_,_=>by simp[jt]at h
 |y::p3,v::vs,h,0,x,hx=>by
  simp only[jt]at h
  simp at hx;subst hx
  exact⟨v,rfl,h.1⟩
 |y::p3,v::vs,h,i+1,x,hx=>by
  simp only[jt]at h
  exact jt.get h.2 (by simpa using hx)
theorem P7(hc:Core c σ a.tmps w M ν){x:Operand}{i:Nat}(ho:o.op= .extract x i){K:jf α}{vs:List bD}{v:bD}(hx:σ.ρ x= .tup vs)(hi:vs[i]? =some v)
  (h:K v [] []=some r) (hn:gg c σ a o w M ν K r next):o.wp P a w next Q:=by
 have hv:=hc.ev x
 rw[hx]at hv
 simp only[VR]at hv
 obtain⟨us,hu,Zp⟩:=hv
 obtain⟨u,hui,hvu⟩:=Zp.get hi
 exact a8 (EU ho hu hui) (hn _ _ _ _ _ M ν h (.refl hc.mem) hvu)
theorem Core.evs(hc:Core c σ a.tmps w M ν): ∀xs:List Operand,jt w M σ.H ν (xs.map σ.ρ) (xs.map a.eval)
 |[]=>by simp[jt]
 |x::xs=>by simp only[bW,jt];exact⟨hc.ev x,hc.evs xs⟩
theorem wD: ∀{p3:List bD} {vs:List Value} {H:Nat→Option bh} {M:Nat→Prop} {K:List bD→List Nat→jb→Option α},Mem c H w M ν→jt w M H ν p3 vs→wk H p3 K=some r→
  ∃cs rd ups M',K cs rd ups=some r∧Tr c H w M ν (c5 H ups) w M' ν∧jt w M' (c5 H ups) ν cs vs
 |[],vs,H,M,K,hm,hv,h=>⟨[],[],[],M,h,.refl hm,hv⟩
 |x::xs,[],H,M,K,hm,hv,h=>by simp[jt]at hv
 |x::xs,v::vs,H,M,K,hm,hv,h=>by
  simp only[jt]at hv
  unfold wk at h
  split at h
  ·rename_i id
   split at h
   ·rename_i τ z bf
    obtain⟨M1,b,ht,hb,fb,hM,sy,p5,kX⟩:=Tr.fix hm bf
    obtain⟨cs,rd,ups,M2,hK,Vd,Zq⟩:=wD ht.mem (jt.cc ht.cc ht.goes hv.2) h
    refine⟨_,_,_,M2,hK,ht.trans Vd,?_⟩
    have h1:VR w M1 (bY H id (some .gone)) ν (.qT τ z) v:=by
     have P8:=hv.1
     simp only[VR]at P8 ⊢
     obtain⟨e,he,nR⟩:=P8
     rw[bf]at he;cases he
     simp only[AR]at nR
     obtain⟨_,b',eZ,P8⟩:=nR
     rw[hb]at eZ;cases eZ
     exact⟨b,0,P8,fb,hM,sy,p5,kX⟩
    simp only[jt]
    exact⟨VR.cc Vd.cc Vd.goes h1,Zq⟩
   ·cases h
  ·obtain⟨cs,rd,ups,M2,hK,Vd,Zq⟩:=wD hm hv.2 h
   refine⟨_,_,_,M2,hK,Vd,?_⟩
   simp only[jt]
   exact⟨VR.cc Vd.cc Vd.goes hv.1,Zq⟩
theorem Mw(hc:Core c σ a.tmps w M ν){f:FuncId}{first caps:Array Operand}(ho:o.op= .makeFunc (.func f) first caps){K:jf α}
  (h:cond first.isEmpty (wk σ.H (caps.toList.map σ.ρ) λcs rd ups=>K (.Mf f cs) rd ups) none=some r) (hn:gg c σ a o w M ν K r next):o.wp P a w next Q:=by
 obtain⟨hf,h⟩:=cB h
 obtain⟨cs,rd,ups,M',hK,ht,hv⟩:=wD hc.mem (hc.evs _) h
 refine a8 (Dn ho (by simpa using hf)) (hn _ _ _ _ _ M' ν hK ht ?_)
 simp only[VR]
 exact⟨caps.toList.map a.eval,by congr 1;apply js;simp,hv⟩
theorem P9(hE:EnvTy P E)(hc:Core c σ a.tmps w M ν){s d:TypeId}{x:Operand}(ho:o.op= .convert s d x){K:jf α}{τ:Ty}{k:IntKind}(hs:E.ty s=some τ)(hd:E.ty d=some (.int k))
  (h:wh (σ.ρ x) (λ_ n=>K (.val (.int k) (W k n)) [] [])=some r) (hn:gg c σ a o w M ν K r next):o.wp P a w next Q:=by
 obtain⟨k',n,hx,h⟩:=ng h
 have hv:=hc.ev x
 rw[hx]at hv
 refine a8 (EV ho (hE.ty s τ hs).isSome (hE.ty d _ hd).int hv.int) (hn _ _ _ _ _ M ν h (.refl hc.mem) ?_)
 rw[EL];exact .mkInt k _
end VM
end
section
namespace VM
open Go
variable{P:Program}{E:Env}{o:Oper}{a:Act}{w:World}{M:Nat→Prop}{ν:Nat→Value}{σ:St}{c:Ctx}{α:Type}{r:α}{next:Act→World→Prop}{Q:Exit→Act→World→Prop}
theorem Te{b:BinOp}{k k':IntKind}{x y:Int}{t:TypeId}{K:bD→Option α}(h:Zf b k x y K=some r):
  ∃z,K (.val (.int k) z)=some r∧(binOp b t (.int k x) (.int k' y)).run P w= .ok (.int k z) w:=by
 unfold Zf at h
 split at h
 ·obtain⟨h0,h⟩:=mB h
  rw[uu]at h0
  have h0: ¬y<0:=by simpa using h0
  refine⟨_,h,?_⟩
  rw[EL,Vs]
  simp[binOp,Op.shift,h0]
 ·obtain⟨h0,h⟩:=mB h
  rw[uu]at h0
  have h0: ¬y<0:=by simpa using h0
  refine⟨_,h,?_⟩
  rw[P2]
  simp[binOp,Op.shift,h0]
 ·cases h
theorem J1{b:BinOp}{k:IntKind}{x y:Int}{t:TypeId}{K:bD→Option α}(h:ux b k x y K=some r):
  ∃v u,K v=some r∧(binOp b t (.int k x) (.int k y)).run P w= .ok u w∧ ∀H,VR w M H ν v u:=by
 unfold ux at h
 split at h
 ·exact⟨_,_,h,by simp[binOp,Op.intArith,EL],λH=> .mkInt _ _⟩
 ·exact⟨_,_,h,by simp[binOp,Op.intArith,EL],λH=> .mkInt _ _⟩
 ·exact⟨_,_,h,by simp[binOp,Op.intArith,EL],λH=> .mkInt _ _⟩
 ·obtain⟨h0,h⟩:=mB h
  rw[jA]at h0
  have h0: ¬y=0:=by simpa using h0
  exact⟨_,_,h,by simp[binOp,Op.intDiv,EL,agN,h0],λH=> .mkInt _ _⟩
 ·obtain⟨h0,h⟩:=mB h
  rw[jA]at h0
  have h0: ¬y=0:=by simpa using h0
  exact⟨_,_,h,by simp[binOp,Op.intDiv,agO,h0],λH=> .mkInt _ _⟩
 ·exact⟨_,_,h,by simp[binOp,Op.intBits,uv],λH=> .mkInt _ _⟩
 ·exact⟨_,_,h,by simp[binOp,Op.intBits,uv],λH=> .mkInt _ _⟩
 ·exact⟨_,_,h,by simp[binOp,Op.intBits,uv],λH=> .mkInt _ _⟩
 ·exact⟨_,_,h,by simp[binOp,Op.intBits,uv],λH=> .mkInt _ _⟩
 ·exact⟨_,.bool (decide (x=y)),h,by simp[binOp,Op.intCmp];rfl,λH=>by rw[jA];exact .uA _⟩
 ·exact⟨_,.bool (!decide (x=y)),h,by simp[binOp,Op.intCmp];rfl,λH=>by rw[jA];exact .uA _⟩
 ·exact⟨_,_,h,by simp[binOp,Op.intCmp,uu],λH=> .uA _⟩
 ·exact⟨_,_,h,by simp[binOp,Op.intCmp,oa],λH=> .uA _⟩
 ·exact⟨_,_,h,by simp[binOp,Op.intCmp,uu],λH=> .uA _⟩
 ·exact⟨_,_,h,by simp[binOp,Op.intCmp,oa],λH=> .uA _⟩
 ·cases h
theorem Tf{t:Option Ty}{op:BinOp}{τ:Ty}{x:τ.den}{υ:Ty}{y:υ.den}{K:bD→Option α}(h:EO t op τ x υ y K=some r):
  (∃(k k':IntKind) (m n:Int),bD.val τ x= .val (.int k) m∧bD.val υ y= .val (.int k') n∧(cond (Zg op) (Zf op k m n K) (if k=k' then ux op k m n K else none))=some r)∨
  (∃z:τ.den,bD.val υ y= .val τ z∧t=some τ∧τ.comparable=true∧((op= .eql∧K (.val .bool (uw τ x z))=some r)∨(op= .neq∧K (.val .bool (!uw τ x z))=some r))):=by
 unfold EO at h
 split at h
 ·exact .inl ⟨_,_,_,_,rfl,rfl,h⟩
 ·right
  split at h
  ·cases h
  ·obtain⟨e,h1⟩:=fZ h
   clear h
   subst e
   obtain⟨hc,h⟩:=cB h1
   clear h1
   split at h
   ·obtain⟨e,h1⟩:=bC h
    subst e
    exact⟨_,rfl,rfl,hc,.inl ⟨rfl,h1⟩⟩
   ·obtain⟨e,h1⟩:=bC h
    subst e
    exact⟨_,rfl,rfl,hc,.inr ⟨rfl,h1⟩⟩
   ·cases h
theorem Ct{t:TypeId}(hu:P.underlying t=some .bool)(x y:Bool)(w:World):(Op.equal t (.bool x) (.bool y)).run P w= .ok (x==y) w:=by
 unfold Op.equal
 obtain⟨n,hn⟩: ∃n,Op.maxDepth=n+1:=⟨9999,rfl⟩
 rw[hn]
 simp[Op.equalIn,run_underlying hu]
theorem run_eql_bool{t:TypeId}(hu:P.underlying t=some .bool)(x y:Bool):(binOp .eql t (.bool x) (.bool y)).run P w= .ok (.bool (x==y)) w:=by
 simp[binOp,Ct hu]
theorem run_neq_bool{t:TypeId}(hu:P.underlying t=some .bool)(x y:Bool):(binOp .neq t (.bool x) (.bool y)).run P w= .ok (.bool (!(x==y))) w:=by
 simp[binOp,Ct hu]
theorem alG(x y:ByteArray):(x.toList==y.toList)=decide (x.toList=y.toList):=by
 rw[oV];simp
theorem My{t:TypeId}(x y:ByteArray):(binOp .eql t (.string x) (.string y)).run P w= .ok (.bool (decide (x.toList=y.toList))) w:=by
 simp[binOp,Op.stringOp,alG]
theorem Mz{t:TypeId}(x y:ByteArray):(binOp .neq t (.string x) (.string y)).run P w= .ok (.bool (!decide (x.toList=y.toList))) w:=by
 simp[binOp,Op.stringOp,alG]
theorem VG(hE:EnvTy P E)(hc:Core c σ a.tmps w M ν){b:BinOp}{t t':TypeId}{x y:Operand}(ho:o.op= .binOp b t x y t'){K:jf α}
  (h:Mh (σ.ρ x) (fun τ x=>Mh (σ.ρ y) fun υ y=>EO (E.ty t) b τ x υ y λv=>K v [] [])=some r) (hn:gg c σ a o w M ν K r next):o.wp P a w next Q:=by
 have hx:=hc.ev x
 have hy:=hc.ev y
 unfold Mh at h
 split at h
 ·rename_i τ x' Zr
  split at h
  ·rename_i υ y' hye
   rw[Zr]at hx;rw[hye]at hy
   rcases Tf h with⟨k,k',m,n,e1,e2,h1⟩|⟨z,e2,ht,DX,h1⟩
   ·rw[e1]at hx;rw[e2]at hy
    have hx:=hx.int
    have hy:=hy.int
    cases hs:Zg b
    ·rw[hs]at h1
     replace h1:(if k=k' then ux b k m n (λv=>K v [] [])else none)=some r:=h1
     split at h1
     ·rename_i hk;subst hk
      obtain⟨v,u,hK,dE,hVR⟩:=J1 (P:=P) (w:=w) (M:=M) (ν:=ν) (t:=t) h1
      exact a8 (p6 ho (by rw[hx,hy];exact pA w) (by rw[hx,hy];exact dE)) (hn _ [] [] _ _ _ _ hK (.refl hc.mem) (hVR _))
     ·cases h1
    ·rw[hs]at h1
     replace h1:Zf b k m n (λv=>K v [] [])=some r:=h1
     obtain⟨z,hK,dE⟩:=Te (P:=P) (w:=w) (k':=k') (t:=t) h1
     exact a8 (p6 ho (by rw[hx,hy];exact pA w) (by rw[hx,hy];exact dE)) (hn _ [] [] _ _ _ _ hK (.refl hc.mem) (.mkInt _ _))
   ·rw[e2]at hy
    have key:(eqGuard b t x y (a.eval x) (a.eval y)).run P w= .ok () w∧(binOp .eql t (a.eval x) (a.eval y)).run P w= .ok (.bool (uw τ x' z)) w∧(binOp .neq t (a.eval x) (a.eval y)).run P w= .ok (.bool (!uw τ x' z)) w:=by
     by_cases Mp:τ.isAgg=true
     ·simp only[VR]at hx hy
      exact hE.eq t τ ht DX Mp w M _ _ _ _ b x y hx hy
     ·have hl:=hE.ty t τ ht
      cases τ with
      |int k=>
       rw[hx.int,hy.int]
       refine⟨pA w,?_,?_⟩
       ·simp[binOp,Op.intCmp,uw,jA];rfl
       ·simp[binOp,Op.intCmp,uw,jA];rfl
      |bool=>rw[hx.bool,hy.bool];exact⟨Br w,run_eql_bool hl.bool _ _,run_neq_bool hl.bool _ _⟩
      |str=>rw[hx.str,hy.str];exact⟨Dp w,by rw[My];simp[uw,EN],by rw[Mz];simp[uw,EN]⟩
      |slice e=>simp[Ty.comparable]at DX
      |unit=>simp[Ty.isAgg]at Mp
      |pair _ _=>simp[Ty.isAgg]at Mp
      |arr _ _=>simp[Ty.isAgg]at Mp
    obtain⟨hg,h2,h3⟩:=key
    rcases h1 with⟨rfl,hK⟩|⟨rfl,hK⟩
    ·exact a8 (p6 ho hg h2) (hn _ [] [] _ _ _ _ hK (.refl hc.mem) (.uA _))
    ·exact a8 (p6 ho hg h3) (hn _ [] [] _ _ _ _ hK (.refl hc.mem) (.uA _))
  ·cases h
 ·cases h
theorem Zs(hc:Core c σ a.tmps w M ν){u:UnOp}{t:TypeId}{x:Operand}(ho:o.op= .unOp u t x){K:jf α}
  (h:S3 u (σ.ρ x) (λv=>K v [] [])=some r) (hn:gg c σ a o w M ν K r next):o.wp P a w next Q:=by
 have hx:=hc.ev x
 unfold S3 at h
 split at h
 ·rename_i k n Zr
  rw[Zr]at hx
  refine a8 (wy ho (v:= .int k (k.wrap (0-n))) ?_) (hn _ [] [] _ _ _ _ h (.refl hc.mem) (by rw[EL];exact .mkInt _ _))
  rw[hx.int];simp[Op.unary,Op.intArith]
 ·rename_i k n Zr
  rw[Zr]at hx
  refine a8 (wy ho (v:= .int k (qS .xor k (if k.signed then-1 else k.max) n)) ?_) (hn _ [] [] _ _ _ _ h (.refl hc.mem) (.mkInt _ _))
  rw[hx.int,uv];simp[Op.unary,Op.intBits]
 ·rename_i b Zr
  rw[Zr]at hx
  refine a8 (wy ho (v:= .bool (!b)) ?_) (hn _ [] [] _ _ _ _ h (.refl hc.mem) (.uA _))
  rw[hx.bool];simp[Op.unary]
 ·cases h
end VM
end
section
namespace VM
open Go
variable{P:Program}{E:Env}{o:Oper}{a:Act}{w:World}{M:Nat→Prop}{ν:Nat→Value}{σ:St}{c:Ctx}{α:Type}{r:α}{next:Act→World→Prop}{Q:Exit→Act→World→Prop}
theorem oe{args:Array Operand}{ts:Array TypeId}{t:TypeId}{x:Operand}{n:Nat}(ho:o.op= .call {callee:= .builtin .len,args,argTypes:=ts})(ha:args.toList=[x])(_ht:ts.toList.head?=some t)
  (hl: ∀ty,(Builtin.len_ ts ty #[a.eval x]).run P w= .ok (goInt n) w):(execOp a.eval o).run P w= .ok (.value (.int .i64 n)) w:=by
 obtain⟨cs,hr⟩:=qY (P:=P) (ρ:=a.eval) ho (w:=w)
 rw[hr]
 have:args.map a.eval= #[a.eval x]:=by apply js;simp[ha]
 rw[this]
 simp[builtin,hl,goInt]
theorem Zt{ts:Array TypeId}{t ty:TypeId}(ht:ts[0]? =some t)(hu:P.underlying t=some .string)(s:ByteArray):(Builtin.len_ ts ty #[.string s]).run P w= .ok (goInt s.size) w:=by
 simp[Builtin.len_,ht,run_underlying hu]
theorem Zu{ts:Array TypeId}{t ty e:TypeId}{n:Nat}(ht:ts[0]? =some t)(hu:P.underlying t=some (.array n e))(v:Value):(Builtin.len_ ts ty #[v]).run P w= .ok (goInt n) w:=by
 simp[Builtin.len_,ht,run_underlying hu]
theorem xC{ts:Array TypeId}{t ty e:TypeId}(ht:ts[0]? =some t)(hu:P.underlying t=some (.slice e))(ad:Option Addr)(n cp:Nat):(Builtin.len_ ts ty #[.slice ad n cp]).run P w= .ok (goInt n) w:=by
 simp[Builtin.len_,ht,run_underlying hu]
theorem ER.VH{e:Ty}{l:List e.den}{v:Value}(h:ER w M v (.own e l)): ∃ad cp,v= .slice ad l.length cp:=by
 simp only[ER]at h
 rcases h with⟨rfl,a,hv⟩|⟨b,cs,t,cap,hv,_⟩
 ·exact⟨a,0,hv⟩
 ·exact⟨_,cap,hv⟩
theorem ER.VI{e:Ty}{l:List e.den}{v:Value}(h:ER w M v (.oK e l)): ∃ad cp,v= .slice ad l.length cp:=by
 simp only[ER]at h
 have h:=h.1
 simp only[Rd,fi,eT]at h
 obtain⟨a,cap,hv,_⟩:=h
 exact⟨a,cap,hv⟩
theorem ag4(hE:EnvTy P E)(hc:Core c σ a.tmps w M ν){args:Array Operand}{ts:Array TypeId}{x:Operand}(ho:o.op= .call {callee:= .builtin .len,args,argTypes:=ts})(ha:args.toList=[x]){K:jf α}{τ:Ty}
  (ht:(ts.toList.head?).bind E.ty=some τ) (h:Mi τ (σ.ρ x) σ.H K=some r) (hn:gg c σ a o w M ν K r next):o.wp P a w next Q:=by
 obtain⟨t,vO,Vd⟩:=th.1 ht
 have Zv:ts[0]? =some t:=by rw[←vO,←gV,List.head?_eq_getElem?]
 have hl:=hE.ty t τ Vd
 have hv:=hc.ev x
 unfold Mi at h
 split at h
 ·rename_i e e' l hx
  obtain⟨_,hu,_⟩:=hl.slice
  rw[hx]at hv
  simp only[VR]at hv
  have hv:=V.slice.1 hv
  simp only[Rd,fi,eT]at hv
  obtain⟨ad,cap,hv,_⟩:=hv
  refine a8 (oe ho ha vO (n:=List.length l) λty=>by rw[hv];exact xC Zv hu _ _ _) (hn _ [] [] _ _ _ _ h (.refl hc.mem) (.mkInt _ _))
 ·rename_i n e n' e' l hx
  obtain⟨_,hu,_⟩:=hl.arr
  refine a8 (oe ho ha vO (n:=n) λty=>Zu Zv hu _) (hn _ [] [] _ _ _ _ h (.refl hc.mem) (.mkInt _ _))
 ·rename_i s hx
  rw[hx]at hv
  refine a8 (oe ho ha vO (n:=ByteArray.size s) λty=>by rw[hv.str];exact Zt Zv hl.str _) (hn _ [] [] _ _ _ _ h (.refl hc.mem) (.mkInt _ _))
 ·rename_i e hx
  obtain⟨_,hu,_⟩:=hl.slice
  rw[hx]at hv
  simp only[VR]at hv
  obtain⟨ad,hv⟩:=hv
  refine a8 (oe ho ha vO (n:=0) λty=>by rw[hv];exact xC Zv hu _ _ _) (hn _ [] [] _ _ _ _ h (.refl hc.mem) (.mkInt _ _))
 ·rename_i e id hx
  obtain⟨_,hu,_⟩:=hl.slice
  rw[hx]at hv
  simp only[VR]at hv
  split at h
  ·rename_i e' l bf
   obtain⟨ad,cap,hh⟩:=(hc.mem.la id _ bf).VH
   refine a8 (oe ho ha vO (n:=l.length) λty=>by rw[hv.2,hh];exact xC Zv hu _ _ _) (hn _ [id] [] _ _ _ _ h (.refl hc.mem) (.mkInt _ _))
  ·rename_i e' l bf
   obtain⟨ad,cap,hh⟩:=(hc.mem.la id _ bf).VI
   refine a8 (oe ho ha vO (n:=l.length) λty=>by rw[hv.2,hh];exact xC Zv hu _ _ _) (hn _ [id] [] _ _ _ _ h (.refl hc.mem) (.mkInt _ _))
  ·cases h
 ·cases h
theorem MA{H:Nat→Option bh}(up:Bool): ∀(xs:List bD) (x:bD) (v:Value) (vs:List Value) (K:bD→Option α),VR w M H ν x v→jt w M H ν xs vs→YX up x xs K=some r→
  ∃x' v',K x'=some r∧(vs.foldlM (if up then Builtin.max2 else Builtin.min2) v).run P w= .ok v' w∧VR w M H ν x' v'
 |[],x,v,[],K,hx,_,h=>⟨x,v,h,by simp,hx⟩
 |[],_,_,_::_,_,_,hs,_=>by simp[jt]at hs
 |_::_,_,_,[],_,_,hs,_=>by simp[jt]at hs
 |y::xs,x,v,u::vs,K,hx,hs,h=>by
  simp only[jt]at hs
  obtain⟨hy,hs⟩:=hs
  unfold YX at h
  obtain⟨k,m,e1,h1⟩:=ng h
  obtain⟨k',n,e2,h2⟩:=ng h1
  clear h h1
  split at h2
  ·rename_i hk
   subst hk
   rw[e1]at hx;rw[e2]at hy
   have hx:=hx.int
   have hy:=hy.int
   obtain⟨x',v',hK,dE,hV⟩:=MA up xs _ (.int k (cond up (mx m n) (mn m n))) vs K (.mkInt _ _) hs h2
   refine⟨x',v',hK,?_,hV⟩
   rw[List.foldlM_cons,Sem.run_bind]
   have:((if up then Builtin.max2 else Builtin.min2) v u).run P w= .ok (.int k (cond up (mx m n) (mn m n))) w:=by
    rw[hx,hy]
    cases up
    ·simp[Builtin.min2,Ry]
    ·simp[Builtin.max2,Rx]
   rw[this]
   exact dE
  ·cases h2
theorem afO(hc:Core c σ a.tmps w M ν)(up:Bool){args:Array Operand}{ts:Array TypeId}{x:Operand}{xs:List Operand}(ho:o.op= .call {callee:= .builtin (if up then .max else .min),args,argTypes:=ts})(ha:args.toList=x::xs){K:jf α}
  (h:YX up (σ.ρ x) (xs.map σ.ρ) (λv=>K v [] [])=some r) (hn:gg c σ a o w M ν K r next):o.wp P a w next Q:=by
 obtain⟨x',v',hK,dE,hV⟩:=MA (P:=P) up (xs.map σ.ρ) (σ.ρ x) (a.eval x) (xs.map a.eval) _ (hc.ev x) (hc.evs xs) h
 refine a8 ?_ (hn _ [] [] _ _ _ _ hK (.refl hc.mem) hV)
 obtain⟨cs,hr⟩:=qY (P:=P) (ρ:=a.eval) ho (w:=w)
 rw[hr]
 have hm:(args.map a.eval).toList=a.eval x::xs.map a.eval:=by simp[ha]
 cases up
 ·simp only[jc,eU,builtin,Builtin.min_,hm,Sem.run_bind]at dE ⊢
  rw[dE];simp
 ·simp only[gD,builtin,Builtin.max_,hm,Sem.run_bind]at dE ⊢
  rw[dE];simp
theorem Ht{ρ:Operand→Value}{t:TypeId}{x i:Operand}(ho:o.op= .index t x i){k:IntKind}{n:Int}{s:ByteArray}
  (hu:P.underlying t=some .string) (hx:ρ x= .string s) (hi:ρ i= .int k n) (h0:0≤n) (h1:n<(s.size:Int)):
  (execOp ρ o).run P w= .ok (.value (.int .u8 ((s.data.getD n.toNat 0).toNat:Int))) w:=by
 have fb:n.toNat<s.size:=ω
 have hs:s[n.toNat]? =some (s[n.toNat]'fb):=by simp[fb]
 have he:s[n.toNat]'fb=s.data.getD n.toNat 0:=by
  have wE:n.toNat<s.data.size:=fb
  rw[Array.getD,dif_pos wE];rfl
 simp[execOp,ho,hx,hi,Instr.index,asIntOf,run_underlying hu,h0,hs,he]
theorem VJ(hE:EnvTy P E)(hc:Core c σ a.tmps w M ν){t:TypeId}{x i:Operand}(ho:o.op= .index t x i){K:jf α}{τ:Ty}(ht:E.ty t=some τ)
  (h:wm τ (σ.ρ x) (σ.ρ i) (λv=>K v [] [])=some r) (hn:gg c σ a o w M ν K r next):o.wp P a w next Q:=by
 unfold wm at h
 obtain⟨k,n,hi,h2⟩:=ng h
 clear h
 have h:=h2
 clear h2
 have RF:=hc.ev i
 rw[hi]at RF
 have RF:=RF.int
 have hv:=hc.ev x
 have z7:=hE.ty t τ ht
 split at h
 ·rename_i len e υ l hx
  obtain⟨e',PQ,hle⟩:=z7.arr
  obtain⟨e1,h⟩:=bC h
  subst e1
  obtain⟨lW,h⟩:=cB h
  obtain⟨h0,h1⟩:=uB lW
  rw[hx]at hv
  simp only[VR]at hv
  obtain⟨cs,hu,hr⟩:=hv.agg rfl
  have eO:=hr.idx (i:=n.toNat) ω
  refine a8 (Ho ho PQ hle hu RF h0 h1 eO) (hn _ [] [] _ _ _ _ h (.refl hc.mem) ?_)
  simp only[VR]
  exact V.cM eO
 ·rename_i s hx
  obtain⟨lW,h⟩:=cB h
  obtain⟨h0,h1⟩:=uB lW
  rw[hx]at hv
  refine a8 (Ht ho z7.str hv.str RF h0 h1) (hn _ [] [] _ _ _ _ h (.refl hc.mem) (.mkInt _ _))
 ·cases h
theorem oM(τ:Ty):τ.dj.length=τ.size:=(Rd.zero default (λ_=>False) τ).length
theorem Dt{z:Array Value}{n i s:Nat}(hz:z.size=s)(hi:i*s+s≤n):((madeCells z n).toList.drop (i*s)).take s=z.toList:=by
 apply zD
 intro j
 rw[lR]
 split
 ·rename_i hj
  rw[lS,gV,gV]
  simp only[madeCells,Array.getElem?_map]
  rw[Array.getElem?_range,aj ω]
  simp only[Option.map_some]
  have:(i*s+j)%z.size=j:=by rw[hz,EH,Nat.mul_add_mod,Nat.mod_eq_of_lt hj]
  rw[this,LV ω,getElem!_pos z j ω]
 ·rename_i hj
  rw[gV,L1 ω]
theorem qZ.made(w:World)(M:Nat→Prop)(e:Ty){n l:Nat}(h:l*e.size≤n):qZ w M e (madeCells (cM e e.dj).cells n).toList (List.replicate l e.zero):=by
 intro i hi
 rw[cU]at hi
 have:=eB (s:=e.size) hi
 rw[Dt (by rw[←bI,gW,oM]) ω,gW,L4]
 exact Rd.zero w M e
theorem Bv{ρ:Operand→Value}{t:TypeId}{x y:Operand}(ho:o.op= .makeSlice t x y){v:Value}{w':World}(h:(Instr.makeSlice t (ρ x) (ρ y)).run P w= .ok v w'):(execOp ρ o).run P w= .ok (.value v) w':=by
 simp[execOp,ho,h]
theorem J2(hE:EnvTy P E)(hc:Core c σ a.tmps w M ν){t:TypeId}{x y:Operand}(ho:o.op= .makeSlice t x y){K:jf α}{e:Ty}(ht:E.ty t=some (.slice e)){id:Nat}
  (h:wh (σ.ρ x) (λ_ l=>wh (σ.ρ y) λ_ c=>cond (jZ l c)
   (qU σ.H id (.own e []) (K (.ref id) [id] [(id,some (.own e (List.replicate l.toNat e.zero)))])) none)=some r) (hn:gg c σ a o w M ν K r next):o.wp P a w next Q:=by
 obtain⟨k,l,hx,h1⟩:=ng h
 obtain⟨k',n,hy,h2⟩:=ng h1
 clear h h1
 obtain⟨hk,h⟩:=cB h2
 obtain⟨bf,h⟩:=lx h
 rw[H9]at hk
 obtain⟨h0,h1,h3⟩:=bz hk
 simp only[zQ]at h3
 obtain⟨e',hu,hle⟩:=(hE.ty t _ ht).slice
 obtain⟨i,hi,hs,hz,hb⟩:=hle.base
 have J3:=hc.ev x
 have Dr:=hc.ev y
 rw[hx]at J3;rw[hy]at Dr
 have ag5:(i.bytes:Int)*n≤281474976710656:=by
  have h4:(i.bytes:Int)≤2048:=ω
  have:(i.bytes:Int)*n≤2048*n:=zs h4 ω
  omega
 have dE:=run_make (P:=P) w t e' i _ hu hi hz k k' l n h0 h1 ag5 ω
 have hlen:(List.replicate l.toNat e.zero).length=l.toNat:=cU
 have ix:=Tr.row hc.mem bf e' (e:=e) (cs:=madeCells (cM e e.dj).cells (n.toNat*i.size)) (l:=List.replicate l.toNat e.zero) (cap:=n.toNat) (by rw[hlen];omega) (by simp[maxLen];omega)
  (by rw[size_madeCells,hs]) (qZ.made w M e (wb ω ω))
 refine a8 (Bv ho (by rw[J3.int,Dr.int];exact dE)) (hn _ _ _ _ _ _ _ h ix ?_)
 simp only[VR]
 exact⟨by show bY σ.H id _ id≠none;rw[ax];simp,by simp[dg]⟩
end VM
end
