/- A part of the proof of WindEmpty of layer 21: a machine that reads a function of the program as an equation between values. -/
import Derived.Test.YtecmobijochjkaaGreatVm1
set_option linter.all false
section
namespace VM
open Go
variable{P:Program}{E:Env}{o:Oper}{a:Act}{w:World}{M:Nat→Prop}{ν:Nat→Value}{σ:St}{c:Ctx}{α:Type}{r:α}{next:Act→World→Prop}{Q:Exit→Act→World→Prop}
theorem a7{v:Value}{w':World}(h:(execOp a.eval o).run P w= .ok (.value v) w')(hn:next (a.put o.dst v) w'):o.wp P a w next Q:=by
 unfold Oper.wp Oper.upon;rw[h];exact hn
theorem qT{w':World}(h:(execOp a.eval o).run P w= .ok .skip w')(hn:next (a.put o.dst undef) w'):o.wp P a w next Q:=by
 unfold Oper.wp Oper.upon;rw[h];exact hn
def gd(c:Ctx)(σ:St)(a:Act)(o:Oper)(w:World)(M:Nat→Prop)(ν:Nat→Value)(K:jb α)(r:α)(next:Act→World→Prop):Prop:=
 ∀v rd ups v' w' M' ν',K v rd ups=some r→Tr c σ.H w M ν (c4 σ.H ups) w' M' ν'→VR w' M' (c4 σ.H ups) ν' v v'→next (a.put o.dst v') w'
theorem Core.ev(h:Core c σ a.tmps w M ν)(x:Operand):VR w M σ.H ν (σ.ρ x) (a.eval x):=h.op a.defers x
theorem m6{x:bD}{k:IntKind→Int→Option α}(h:vV x k=some r): ∃(i:IntKind) (n:Int),x= .val (.int i) n∧k i n=some r:=by
 unfold vV at h
 split at h
 ·exact⟨_,_,rfl,h⟩
 ·cases h
theorem VR.int{H:Nat→Option bg}{k:IntKind}{n:Int}{v:Value}(h:VR w M H ν (.val (.int k) n) v):v= .int k n:=by
 simp only[VR,V,Ty.isAgg,iY,eT,Rd,fh,eS]at h;exact h
theorem VR.bool{H:Nat→Option bg}{b:Bool}{v:Value}(h:VR w M H ν (.val .bool b) v):v= .bool b:=by
 simp only[VR,V,Ty.isAgg,iY,eT,Rd,fh,eS]at h;exact h
theorem VR.str{H:Nat→Option bg}{b:ByteArray}{v:Value}(h:VR w M H ν (.val .str b) v):v= .string b:=by
 simp only[VR,V,Ty.isAgg,iY,eT,Rd,fh,eS]at h;exact h
theorem VR.mkInt{H:Nat→Option bg}(k:IntKind)(n:Int):VR w M H ν (.val (.int k) n) (.int k n):=by simp[VR,V,Ty.isAgg,Rd]
theorem VR.ue{H:Nat→Option bg}(b:Bool):VR w M H ν (.val .bool b) (.bool b):=by simp[VR,V,Ty.isAgg,Rd]
theorem VR.mkStr{H:Nat→Option bg}(b:ByteArray):VR w M H ν (.val .str b) (.string b):=by simp[VR,V,Ty.isAgg,Rd]
theorem Ru(hc:Core c σ a.tmps w M ν){x:Operand}(ho:o.op= .move x∨o.op= .assign x){K:jb α}(h:K (σ.ρ x) [] []=some r)(hn:gd c σ a o w M ν K r next):o.wp P a w next Q:=by
 have hr:(execOp a.eval o).run P w= .ok (.value (a.eval x)) w:=by
  rcases ho with ho|ho
  ·simp[execOp,ho]
  ·simp[execOp,ho]
 exact a7 hr (hn _ _ _ _ _ _ _ h (.refl hc.mem) (hc.ev x))
theorem Zj(hc:Core c σ a.tmps w M ν){x y z:Operand}(ho:o.op= .pick x y z){K:jb α}{t:Bool}(hx:σ.ρ x= .val .bool t)(h:cond t (K (σ.ρ y) [] []) (K (σ.ρ z) [] [])=some r)
  (hn:gd c σ a o w M ν K r next):o.wp P a w next Q:=by
 have hv:=hc.ev x
 rw[hx]at hv
 refine a7 (Mq ho hv.bool) ?_
 cases t
 ·exact hn _ _ _ _ _ _ _ h (.refl hc.mem) (hc.ev z)
 ·exact hn _ _ _ _ _ _ _ h (.refl hc.mem) (hc.ev y)
theorem ln{H:Nat→Option bg}{id:Nat}{e:bg}{K:Option α}(h:qN H id e K=some r):H id=none∧K=some r:=by
 unfold qN at h
 split at h
 ·rename_i h';exact⟨h',h⟩
 ·cases h
theorem VR.afJ{H:Nat→Option bg}{id:Nat}{τ:Ty}{x:τ.den}{b:Nat}(bf:H id=some (.obj τ x))(hν:ν id= .pointer (some ⟨b,0,none⟩)):VR w M H ν (.jn id []) (.pointer (some ⟨b,0,none⟩)):=by
 simp only[VR]
 exact⟨_,bf,trivial,b,hν,rfl⟩
theorem VR.Vs{H:Nat→Option bg}{id:Nat}{τ:Ty}{x:τ.den}{q:List Step}{j b:Nat}(bf:H id=some (.gh τ x q j))(hν:ν id= .pointer (some ⟨b,0,none⟩)):VR w M H ν (.jn id []) (.pointer (some ⟨b,0,none⟩)):=by
 simp only[VR]
 exact⟨_,bf,trivial,b,hν,rfl⟩
theorem gT(τ:Ty):(cK τ τ.di).cells.toList=τ.di:=Hg (Rd.zero default (λ_=>False) τ)
theorem Mr: ∀{τ:Ty} {n:Nat} {a:Ty},JK τ n=some a→ ∃l m,τ.di=l++(a.di++m)∧l.length=rP τ n:=by
 intro τ
 induction τ with
 |pair a b _ Vr=>
  intro n c h
  cases n with
  |zero=>cases h;exact⟨[],b.di,rfl,rfl⟩
  |succ n=>
   obtain⟨l,m,h1,h2⟩:=Vr (n:=n) (a:=c) h
   refine⟨a.di++l,m,by simp only[Ty.di];rw[h1,bt],?_⟩
   rw[aS,h2,(Rd.zero default (λ_=>False) a).length];rfl
 |_=>intro n c h;simp[JK]at h
theorem zV: ∀{p:List Step} {τ υ:Ty},gM p τ υ=true→ ∃l m,τ.di=l++(υ.di++m)∧l.length=cE p τ
 |[],τ,υ,h=>by
  have h:=bz h
  subst h
  exact⟨[],[],by simp,rfl⟩
 | .kC n::p,τ,υ,h=>by
  unfold gM at h
  split at h
  ·rename_i a ha
   obtain⟨l,m,h1,h2⟩:=Mr ha
   obtain⟨l',m',h3,h4⟩:=zV h
   obtain⟨_,_,hf⟩:=tk ha τ.zero
   have:=hf.eq.1
   subst this
   refine⟨l++l',m'++m,by rw[h1,h3];simp,?_⟩
   rw[aS,h2,h4];rfl
  ·cases h
 | .idx _::_,_,_,h=>by simp[gM]at h
theorem Ia{p:List Step}{τ e:Ty}(h:gM p τ (.slice e)=true):τ.di[cE p τ]? =some (.slice none 0 0):=by
 obtain⟨l,m,h1,h2⟩:=zV h
 rw[h1,oF ω,h2,tg];rfl
theorem cy{b:Bool}{K:Option α}(h:cond b K none=some r):b=true∧K=some r:=by
 cases b
 ·cases h
 ·exact⟨rfl,h⟩
theorem Rv{τ:Ty}{q:List Step}{e:Ty}(h:lkT E τ=some (q,e)):gM q τ (.slice e)=true:=by
 unfold lkT at h
 split at h
 ·rename_i υ q' e' _ _
  cases hd:decide (υ=τ)<;>rw[hd]at h
  ·cases h
  ·simp only[aq]at h
   cases hp:gM q' τ (.slice e')<;>rw[hp]at h
   ·cases h
   ·cases h;exact hp
 ·cases h
theorem tv{τ:Ty}{id:Nat}{q:List Step}{e:Ty}(h:JM E τ id=some (q,e)):gM q τ (.slice e)=true:=by
 unfold JM at h
 split at h
 ·exact Rv (cy h).2
 ·cases h
theorem EM{H:Nat→Option bg}{id:Nat}{τ:Ty}{x:τ.den}{q:List Step}{e:Ty}{K:jb α}(h:Dd H id τ x q e K=some r):H id=none∧H (id+1)=none∧K (.jn id []) [id,id+1] [(id,some (.gh τ x q (id+1))),(id+1,some (.own e []))]=some r:=by
 unfold Dd at h
 obtain⟨h1,h⟩:=ln h
 obtain⟨h2,h⟩:=ln h
 exact⟨h1,h2,h⟩
theorem S4{H:Nat→Option bg}{i j:Nat}{u v:Option bg}(h:i≠j):bZ (bZ H i u) j v=bZ (bZ H j v) i u:=by
 funext k
 by_cases hi:k=i
 ·subst hi;rw[az _ _ h,ax,ax]
 ·by_cases hj:k=j
  ·subst hj;rw[ax,az _ _ hi,ax]
  ·rw[az _ _ hj,az _ _ hi,az _ _ hi,az _ _ hj]
theorem yF{H:Nat→Option bg}{i:Nat}{u v:Option bg}:bZ (bZ H i u) i v=bZ H i v:=by
 funext k
 by_cases hi:k=i
 ·subst hi;rw[ax,ax]
 ·rw[az _ _ hi,az _ _ hi,az _ _ hi]
theorem Tr.Vt{H:Nat→Option bg}(h:Mem c H w M ν){id k:Nat}(hk:H k=none){τ:Ty}{x:τ.den}(bf:H id=some (.obj τ x)){b:Nat}{cs:Array Value}{t:TypeId}(hb:ν id= .pointer (some ⟨b,0,none⟩))(hg:w.heap[b]? =some (.cells cs t (0,0)))
  {q:List Step} {e:Ty} (hq:gM q τ (.slice e)=true) {ad:Option Addr} (hz:cs.toList[cE q τ]? =some (.slice ad 0 0)):
  Tr c H w M ν (c4 H [(id,some (.gh τ x q k)),(k,some (.own e []))]) w M (dg ν k (.slice ad 0 0)):=by
 have jy:k≠id:=λe=>by rw[e,bf]at hk;cases hk
 have h2:=Tr.nothing h hk e ad
 have hd2:bZ H k (some (.own e [])) id=some (.obj τ x):=by rw[az _ _ (eH jy)];exact bf
 have hν:dg ν k (.slice ad 0 0) id= .pointer (some ⟨b,0,none⟩):=by unfold dg;rw[ah (eH jy)];exact hb
 have hν1:dg ν k (.slice ad 0 0) k= .slice ad 0 0:=by simp[dg]
 have he:=h2.mem.kZ id _ hd2
 simp only[ER]at he
 obtain⟨b',cs',t',eY,hg',hM,kV⟩:=he
 rw[hν]at eY;cases eY
 rw[hg]at hg';cases hg'
 have h3:=Tr.Hj h2.mem hd2 trivial (e':= .gh τ x q k) trivial rfl (λ_ _=>by simp) (by
   rw[hν];simp only[ER]
   exact⟨_,cs,t,cs.toList,.slice ad 0 0,rfl,hg,hM,kV,(Mn hz).symm,rfl,e,hq⟩)
  (fun τ' x' p' j' hl=>by
   cases hl
   refine⟨by rw[ax];simp,_,hν,?_⟩
   rw[hν1,cell_of hg,←gR];exact hz)
 rw[S4 (i:=k) (j:=id) jy]at h3
 exact h2.trans h3
theorem Tr.Dd{H:Nat→Option bg}(h:Mem c H w M ν){id:Nat}(bf:H id=none)(pt:H (id+1)=none)(t:TypeId){τ:Ty}{cs:Array Value}{x:τ.den}(hr:Rd w M τ cs.toList x){q:List Step}{e:Ty}(hq:gM q τ (.slice e)=true){ad:Option Addr}
  (hz:cs.toList[cE q τ]? =some (.slice ad 0 0)):
  ∃M' ν',Tr c H w M ν (c4 H [(id,some (.gh τ x q (id+1))),(id+1,some (.own e []))]) (w.alloc (.cells cs t)) M' ν'∧ν' id= .pointer (some ⟨w.heap.size,0,none⟩):=by
 have h1:=Tr.var h bf t hr
 have h2:=Tr.Vt h1.mem (id:=id) (k:=id+1) (by rw[az _ _ ω];exact pt) (ax _ _ _) (by simp[dg]) (EI w _) hq hz
 have e1:c4 (bZ H id (some (.obj τ x))) [(id,some (.gh τ x q (id+1))),(id+1,some (.own e []))]=c4 H [(id,some (.gh τ x q (id+1))),(id+1,some (.own e []))]:=by
  show bZ (bZ (bZ H id _) id _) (id+1) _=bZ (bZ H id _) (id+1) _
  rw[yF]
 rw[e1]at h2
 exact⟨_,_,h1.trans h2,by simp[dg]⟩
theorem Vu(hE:EnvTy P E)(hc:Core c σ a.tmps w M ν){t:TypeId}(ho:o.op= .alloc t){K:jb α}{τ:Ty}(ht:E.ty t=some τ){id:Nat}
  (h:(match JM E τ id with
   |some (q,e)=>Dd σ.H id τ τ.zero q e K
   |none=>qN σ.H id (.obj τ τ.zero) (K (.jn id []) [id] [(id,some (.obj τ τ.zero))]))=some r) (hn:gd c σ a o w M ν K r next):o.wp P a w next Q:=by
 obtain⟨i,hi,hs,hz,_⟩:=(hE.ty t τ ht).base
 have hr:Rd w M τ (cK τ τ.di).cells.toList τ.zero:=by rw[gT];exact Rd.zero w M τ
 split at h
 ·rename_i q e sS
  obtain⟨bf,pt,h⟩:=EM h
  obtain⟨M',ν',il,hν⟩:=Tr.Dd hc.mem bf pt t hr (tv sS) (by rw[gT];exact Ia (tv sS))
  refine a7 (zT ho hi hz w) (hn _ _ _ _ _ M' ν' h il ?_)
  exact VR.Vs (by show bZ _ (id+1) _ id=_;rw[az _ _ ω,ax]) hν
 ·obtain⟨bf,h⟩:=ln h
  refine a7 (zT ho hi hz w) (hn _ _ _ _ _ _ _ h (Tr.var hc.mem bf t hr) (VR.afJ (ax _ _ _) (by simp[dg])))
theorem Rw(hE:EnvTy P E)(hc:Core c σ a.tmps w M ν){t:TypeId}{x:Operand}(ho:o.op= .box t x){K:jb α}{τ:Ty}{id:Nat}
  (h:lV true (σ.ρ x) σ.H τ (λy rd ups=>qN σ.H id (.obj τ y) (K (.jn id []) (id::rd) (ups++[(id,some (.obj τ y))])))=some r) (hn:gd c σ a o w M ν K r next):o.wp P a w next Q:=by
 obtain⟨y,rd,ups,M',h,il,hV,hz,_⟩:=n6 (.refl _) hc.mem (hc.ev x) h
 obtain⟨bf,h⟩:=ln h
 have agU:c4 σ.H ups id=none:=hz.none bf
 have wi:=il.trans (Tr.var il.mem agU t hV.cells)
 refine a7 (EJ ho w) (hn _ _ _ _ _ (λb=>M' b∨b=w.heap.size) (dg ν id (.pointer (some ⟨w.heap.size,0,none⟩))) h ?_ ?_)
 ·rw[gr];exact wi
 ·rw[gr];exact VR.afJ (ax _ _ _) (by simp[dg])
theorem agV(hE:EnvTy P E)(hc:Core c σ a.tmps w M ν){t:TypeId}{x:Operand}(ho:o.op= .box t x){K:jb α}{τ:Ty}{id:Nat}
  (h:(match JM E τ id,σ.ρ x with
   |some ([.kC m],e),.JL υ y n=>cond (Nat.beq m n) (c7 υ τ y λy=>Dd σ.H id τ y [.kC m] e K) (lV true (σ.ρ x) σ.H τ (λy rd ups=>qN σ.H id (.obj τ y) (K (.jn id []) (id::rd) (ups++[(id,some (.obj τ y))]))))
   |_,_=>lV true (σ.ρ x) σ.H τ (λy rd ups=>qN σ.H id (.obj τ y) (K (.jn id []) (id::rd) (ups++[(id,some (.obj τ y))]))))=some r) (hn:gd c σ a o w M ν K r next):o.wp P a w next Q:=by
 split at h
 ·rename_i m e υ y n sS hx
  cases hb:Nat.beq m n
  ·rw[hb]at h
   exact Rw hE hc ho h hn
  ·rw[hb]at h
   have EN:=fW hb
   subst EN
   simp only[aq]at h
   obtain⟨e1,h⟩:=bC h
   subst e1
   obtain⟨bf,pt,h⟩:=EM h
   have hv:=hc.ev x
   rw[hx]at hv
   simp only[VR]at hv
   obtain⟨hV,cs,ad,hva,hz⟩:=hv
   have JV:(a.eval x).cells.toList=cs.toList:=by rw[hva];rfl
   obtain⟨M',ν',il,hν⟩:=Tr.Dd hc.mem bf pt t hV.cells (tv sS) (ad:=ad) (by rw[JV];simpa [cE]using hz)
   refine a7 (EJ ho w) (hn _ _ _ _ _ M' ν' h il ?_)
   exact VR.Vs (by show bZ _ (id+1) _ id=_;rw[az _ _ ω,ax]) hν
 ·exact Rw hE hc ho h hn
theorem ug{i:Int}{n:Nat}(h:ba i n=true):0≤i∧i<(n:Int):=by rw[Vm]at h;simpa using h
theorem my{b:Bool}{K:Option α}(h:cond b none K=some r):b=false∧K=some r:=by
 cases b
 ·exact⟨rfl,h⟩
 ·cases h
theorem Cn(hm:Mem c σ.H w M ν){x:bD}{u:Value}(hv:VR w M σ.H ν x u){K:(υ:Ty)→υ.den→List Nat→Option α}(h:kU x σ.H K=some r):
  ∃υ y rd,K υ y rd=some r∧ ∃b off cs,u= .pointer (some ⟨b,off,none⟩)∧At w b off cs∧Rd w M υ cs y:=by
 unfold kU at h
 split at h
 ·simp only[VR]at hv
  obtain⟨b,off,rfl,_,_,cs,ha,hr⟩:=hv
  exact⟨_,_,_,h,b,off,cs,rfl,ha,hr⟩
 ·rename_i id p
  simp only[VR]at hv
  obtain⟨e,he,nM⟩:=hv
  have mJ:=hm.kZ id e he
  rw[he]at h
  cases e with
  |obj τ x=>
   obtain⟨υ,y,o',hp,hK⟩:=kb h
   simp only[AR]at nM
   obtain⟨hi,b,hb,rfl⟩:=nM
   simp only[ER]at mJ
   obtain⟨b',cs,t,eY,hg,_,hr⟩:=mJ
   rw[hb]at eY;cases eY
   have:=hp.eq.2
   subst this
   exact⟨υ,y,_,hK,b,_,_,rfl,At.of_block hg _ _,hp.rd hi hr⟩
  |own e l=>
   simp only[AR]at nM
   obtain⟨i,q,rfl,Hl,hi,b,n,cp,hb,rfl⟩:=nM
   obtain⟨υ,y,o',hp,hK⟩:=kb h
   simp only[ER]at mJ
   rcases mJ with⟨rfl,_⟩|⟨b',cs,t,cap,eY,hg,_,U9,hl,G1,hs,hr⟩
   ·simp at Hl
   ·rw[hb]at eY;cases eY
    have:=hp.eq.2
    subst this
    have h1:=hr i Hl
    rw[←kI l i e.zero Hl]at h1
    have h2:=hp.rd hi h1
    have h3:=hp.bound hi
    rw[qE,jG,qF,iy ω]at h2
    exact⟨υ,y,_,hK,b,_,_,rfl,At.of_block hg _ _,h2⟩
  |oH e l=>
   simp only[AR]at nM
   obtain⟨i,q,rfl,Hl,hi,b,n,cp,hb,rfl⟩:=nM
   obtain⟨υ,y,o',hp,hK⟩:=kb h
   simp only[ER]at mJ
   have kV:=mJ.1
   simp only[Rd,fh,eS]at kV
   obtain⟨a0,cap,ha0,_,hr⟩:=kV
   obtain⟨b',off,rfl,_,_,cs,pY,hrr⟩:=hr i Hl
   rw[hb]at ha0;cases ha0
   have:=hp.eq.2
   subst this
   rw[gk]at pY
   have als:Rd w M e cs (List.getD l i e.zero):=by rw[kI l i e.zero Hl];exact hrr
   have h2:=hp.rd hi als
   have h3:=hp.bound hi
   have Zi:=als.length
   refine⟨υ,y,_,hK,b,_,_,rfl,?_,h2⟩
   intro j v hj
   rw[lO]at hj
   split at hj
   ·rw[lP]at hj
    have:=pY _ v hj
    rwa [←oT]at this
   ·cases hj
  |gh _ _ _ _=>cases h
  |gone=>cases h
 ·cases h
theorem Mem.linked{H:Nat→Option bg}(hm:Mem c H w M ν){id:Nat}{τ:Ty}{x:τ.den}{q:List Step}{j:Nat}(bf:H id=some (.gh τ x q j)):
  ∃b cs t sm e,ν id= .pointer (some ⟨b,0,none⟩)∧w.heap[b]? =some (.cells cs t (0,0))∧M b∧Rd w M τ sm x∧cs.toList=fb sm (cE q τ) [ν j]∧(ν j).oneCell'=true∧gM q τ (.slice e)=true∧cE q τ<sm.length∧H j≠none:=by
 have mJ:=hm.kZ id _ bf
 simp only[ER]at mJ
 obtain⟨b,cs,t,sm,u,hb,hg,hM,hr,JV,h1,e,hq⟩:=mJ
 obtain⟨hj,b',eY,Rx⟩:=hm.gh id _ _ _ _ bf
 rw[hb]at eY;cases eY
 obtain⟨y,o,hp⟩:=tp hq x
 have e9:cE q τ<sm.length:=by
  have:=hp.bound (kJ hq).1
  have h2:=hp.eq.2
  have h3:=hr.length
  have:(Ty.slice e).size=1:=rfl
  omega
 have hu:u=ν j:=by
  rw[cell_of hg,←gR,JV,DR e9]at Rx
  exact oG Rx
 subst hu
 exact⟨b,cs,t,sm,e,hb,hg,hM,hr,JV,h1,hq,e9,hj⟩
theorem yG{H:Nat→Option bg}(hm:Mem c H w M ν){id:Nat}{τ:Ty}{x:τ.den}{q:List Step}{j:Nat}(bf:H id=some (.gh τ x q j)){k:τ.den→iX→Option α}(h:Dc j q τ x H k=some r):
  ∃z ups M',k z ups=some r∧Tr c H w M ν (c4 H ups) w M' ν∧Fz H (c4 H ups)∧((∃e l,H j=some (.oH e l)∧ups=[])∨ ∃e l,H j=some (.own e l)∧ups=[(j,some (.oH e l))])∧ ∃b cs t,ν id= .pointer (some ⟨b,0,none⟩)∧w.heap[b]? =some (.cells cs t (0,0))∧M' b∧Rd w M' τ cs.toList z:=by
 obtain⟨b,cs,t,sm,e0,hb,hg,hM,hr,JV,h1,hq,e9,hj⟩:=hm.linked bf
 have Vv:=(kJ hq).1
 unfold Dc at h
 split at h
 ·rename_i e l G8
  obtain⟨z,hz,EO,G7,xX⟩:=oY h
  obtain⟨M',il,hV,hM'⟩:=Tr.freeze hm G8
  refine⟨z,_,M',hz,il,λi=> ?_,.inr ⟨e,l,G8,rfl⟩,b,cs,t,hb,hg,?_,?_⟩
  ·by_cases hi:i=j
   ·subst hi;exact .inr ⟨e,l,G8,ax _ _ _⟩
   ·exact .inl (az _ _ hi)
  ·refine(hM' b).2 ⟨hM,λhjb=> ?_⟩
   have jy:j≠id:=λe=>by rw[e,bf]at G8;cases G8
   exact hm.zQ j id _ _ b jy G8 trivial bf trivial hjb (by rw[hb];rfl)
  ·rw[JV]
   exact xX w M' sm [ν j] Vv (hr.ca il.ca) (V.slice.1 hV)
 ·rename_i e l G8
  obtain⟨z,hz,EO,G7,xX⟩:=oY h
  have mJ:=hm.kZ j _ G8
  simp only[ER]at mJ
  refine⟨z,_,M,hz,.refl hm,.refl H,.inl ⟨e,l,G8,rfl⟩,b,cs,t,hb,hg,hM,?_⟩
  rw[JV]
  exact xX w M sm [ν j] Vv hr mJ.1
 ·cases h
theorem akM{τ υ:Ty}{t:TypeId}(hE:EnvTy P E)(ht:E.ty t=some τ)(h:gM ([]:List Step) υ τ=true):υ=τ:=bz h
theorem Rd.agW{e:Ty}{v:Value}{cs:List Value}{l:List e.den}(h:Rd w M (.slice e) cs l): ∃a n cap,cs=[.slice a n cap]:=by
 simp only[Rd]at h
 obtain⟨a,cap,rfl,_⟩:=h
 exact⟨a,_,cap,rfl⟩
theorem Hm{ρ:Operand→Value}{t:TypeId}{x:Operand}(ho:o.op= .load t x){τ:Ty}(h:kH P τ t)(ha:τ.isAgg=false){b off:Nat}{v:Value}(hx:ρ x= .pointer (some ⟨b,off,none⟩))(hc:w.cell? ⟨b,off,none⟩=some v):
  (execOp ρ o).run P w= .ok (.value v) w:=by
 have:(loadVar t ⟨b,off,none⟩).run P w= .ok v w:=by
  simp[loadVar,tt h,ha,load,Sem.run,hc]
 simp[execOp,ho,hx,Instr.loadAt,Instr.sureAddr,this]
theorem Ms(hE:EnvTy P E)(hc:Core c σ a.tmps w M ν){t:TypeId}{x:Operand}(ho:o.op= .load t x){K:jb α}{τ:Ty}(ht:E.ty t=some τ)
  (h:kU (σ.ρ x) σ.H (fun υ y rd=>c7 υ τ y λz=>K (.val τ z) rd [])=some r) (hn:gd c σ a o w M ν K r next):o.wp P a w next Q:=by
 obtain⟨υ,y,rd,h,b,off,cs,hu,pY,hr⟩:=Cn hc.mem (hc.ev x) h
 obtain⟨e,h⟩:=bC h
 subst e
 refine a7 (wg ho (hE.ty t _ ht) hu pY hr) (hn _ _ _ _ _ _ _ h (.refl hc.mem) ?_)
 simp only[VR]
 exact V.cK hr
theorem Zk(hE:EnvTy P E)(hc:Core c σ a.tmps w M ν){t:TypeId}{x:Operand}(ho:o.op= .load t x){K:jb α}{τ:Ty}(ht:E.ty t=some τ)
  (h:u9 τ (σ.ρ x) σ.H K=some r) (hn:gd c σ a o w M ν K r next):o.wp P a w next Q:=by
 unfold u9 at h
 simp only at h
 split at h
 ·rename_i id p hx
  split at h
  ·rename_i υ z q j bf
   have hv:=hc.ev x
   rw[hx]at hv
   simp only[VR]at hv
   obtain⟨e1,P2,nM⟩:=hv
   rw[bf]at P2;cases P2
   simp only[AR]at nM
   obtain⟨hi,b,hb,hu⟩:=nM
   obtain⟨b',cs,te,sm,e0,eY,hg,hM,hr,JV,h1,hq,e9,hj⟩:=hc.mem.linked bf
   rw[hb]at eY;cases eY
   cases hp:Me p q
   ·rw[hp]at h
    cases G0:xR p q
    ·
     rw[G0]at h
     simp only[av]at h
     obtain⟨υ',y,o',xY,h⟩:=kb h
     obtain⟨e2,h⟩:=bC h
     subst e2
     have hap:=xY.apart hi hq G0
     have ho':=xY.eq.2
     subst ho'
     have G7:=xY.bound hi
     have hlen:=hr.length
     have kV:Rd w M υ' ((cs.toList.drop (cE p υ)).take υ'.size) y:=by
      rw[JV,JS (by simp only[aI];omega) (by simp only[aI];omega)]
      exact xY.rd hi hr
     refine a7 (wg ho (hE.ty t _ ht) hu (At.of_block hg _ _) kV) (hn _ _ _ _ _ M ν h (.refl hc.mem) ?_)
     simp only[VR]
     exact V.cK kV
    ·
     rw[G0]at h
     simp only[av,aq]at h
     obtain⟨z',ups,M',h,il,_,_,b2,cs2,t2,tU,Vw,JW,yH⟩:=yG hc.mem bf h
     rw[hb]at tU;cases tU
     rw[hg]at Vw;cases Vw
     obtain⟨υ',y,o',xY,h⟩:=kb h
     obtain⟨e2,h⟩:=bC h
     subst e2
     have ho':=xY.eq.2
     subst ho'
     have kV:=xY.rd hi yH
     refine a7 (wg ho (hE.ty t _ ht) hu (At.of_block hg _ _) kV) (hn _ _ _ _ _ M' ν h il ?_)
     simp only[VR]
     exact V.cK kV
   ·
    rw[hp]at h
    have:=Bk hp
    subst this
    simp only[aq]at h
    obtain⟨hpq,hK⟩:=cy h
    have hτ:τ= .slice e0:=(kJ hpq).2.symm.trans (kJ hq).2
    subst hτ
    have Rx:w.cell? ⟨b,cE p υ,none⟩=some (ν j):=by rw[cell_of hg,←gR,JV,DR e9]
    refine a7 (Hm ho (hE.ty t _ ht) rfl hu Rx) (hn _ _ _ _ _ M ν hK (.refl hc.mem) ?_)
    simp only[VR]
    exact⟨hj,trivial⟩
  ·exact Ms hE hc ho ht h hn
 ·exact Ms hE hc ho ht h hn
end VM
end
section
namespace VM
open Go
variable{P:Program}{E:Env}{o:Oper}{a:Act}{w:World}{M:Nat→Prop}{ν:Nat→Value}{σ:St}{c:Ctx}{α:Type}{r:α}{next:Act→World→Prop}{Q:Exit→Act→World→Prop}
theorem Fz.own{H H1:Nat→Option bg}(h:Fz H H1){i:Nat}{e:Ty}{l:List e.den}(hi:H i=some (.own e l)):H1 i=some (.own e l)∨H1 i=some (.oH e l):=by
 rcases h i with h'|⟨e',l',h1,h2⟩
 ·exact .inl (by rw[h',hi])
 ·rw[hi]at h1;cases h1;exact .inr h2
theorem S5(hE:EnvTy P E)(hc:Core c σ a.tmps w M ν){t:TypeId}{x y:Operand}(ho:o.op= .store t x y){K:jb α}{τ:Ty}(ht:E.ty t=some τ)
  (h:lX τ (σ.ρ x) (σ.ρ y) σ.H K=some r) (hn:gd c σ a o w M ν K r next):o.wp P a w next Q:=by
 unfold lX at h
 split at h
 ·rename_i id p hx
  obtain⟨z,rd,ups,M',h,il,hV,hz,kV⟩:=n6 (.refl _) hc.mem (hc.ev y) h
  have hv:=hc.ev x
  rw[hx]at hv
  have hvz:=VR.ca il.ca il.goes hv
  have zW:=hE.ty t τ ht
  have Mt:=hV.cells.length
  rw[bH]at Mt
  split at h
  ·rename_i υ x0 bf
   have pt:=hz.obj bf
   obtain⟨x1,hK,EO,G7,xX⟩:=oY h
   simp only[VR]at hvz
   obtain⟨e1,P2,nM⟩:=hvz
   rw[pt]at P2;cases P2
   simp only[AR]at nM
   obtain⟨hi,b,hb,hu⟩:=nM
   have mJ:=il.mem.kZ id _ pt
   simp only[ER]at mJ
   obtain⟨b',cs,te,eY,hg,hM,hr⟩:=mJ
   rw[hb]at eY;cases eY
   have G7:=G7 hi
   have Zi:=hr.length
   rw[bH]at Zi
   have dE:=m5 (P:=P) ho zW hu hg Mt ω hV.cells.oI
   rw[bH]at dE
   have wi:Tr c (c4 σ.H ups) w M' ν (bZ (c4 σ.H ups) id (some (.obj υ x1))) (w.setRow b (fb cs.toList (cE p υ) (a.eval y).cells.toList).toArray) M' ν:=by
    refine Tr.write (e':= .obj υ x1) il.mem pt trivial trivial rfl (by rw[hb];rfl) hg λPK hk Bn=> ?_
    simp only[ER]
    refine⟨b,_,te,hb,setRow_heap w b cs _ te _ hg,Bn,?_⟩
    exact(xX w M' cs.toList _ hi hr hV.cells).ca hk
   refine qT dE ?_
   refine hn _ _ _ _ _ M' ν hK ?_ (by simp[VR])
   rw[gr]
   have:=il.trans wi
   unfold fb at this
   rw[bH]at this
   exact this
  ·rename_i e l bf
   split at h
   ·rename_i i q h0
    obtain⟨zX,h⟩:=my h
    have pt:c4 σ.H ups id=some (.own e l):=by rw[kV id zX];exact bf
    obtain⟨y1,hK,EO,G7,xX⟩:=oY h
    simp only[VR]at hvz
    obtain⟨e1,P2,nM⟩:=hvz
    rw[pt]at P2;cases P2
    simp only[AR]at nM
    obtain⟨i',q',hpq,Hl,hi,b,n,cp,hb,hu⟩:=nM
    cases hpq
    have mJ:=il.mem.kZ id _ pt
    simp only[ER]at mJ
    rcases mJ with⟨rfl,_⟩|⟨b',cs,te,cap,eY,hg,hM,U9,hl,G1,hs,hr⟩
    ·simp at Hl
    ·rw[hb]at eY;cases eY
     have G7:=G7 hi
     have tq:=ew (s:=e.size) Hl
     have yn:l.length*e.size≤cp*e.size:=lL _ hl
     have dE:=m5 (P:=P) ho zW hu hg Mt ω hV.cells.oI
     rw[bH]at dE
     have hri:=hr i Hl
     rw[←kI l i e.zero Hl]at hri
     have px:=xX w M' _ _ hi hri hV.cells
     have hch:((cs.toList.drop (i*e.size)).take e.size).length=e.size:=hri.length
     have Zl:fb cs.toList (i*e.size) (fb ((cs.toList.drop (i*e.size)).take e.size) (cE q e) (a.eval y).cells.toList)=fb cs.toList (i*e.size+cE q e) (a.eval y).cells.toList:=by
      have YT:=px.length
      have e1:cs.toList=cs.toList.take (i*e.size)++(((cs.toList.drop (i*e.size)).take e.size)++cs.toList.drop (i*e.size+e.size)):=by
       rw[←jG,gi,gi]
      have e9:(cs.toList.take (i*e.size)).length=i*e.size:=by rw[cc,bH];omega
      conv=>rhs;rw[e1]
      rw[show i*e.size+cE q e=(cs.toList.take (i*e.size)).length+cE q e from by rw[e9],xp,zP (by rw[hch,bH];omega)]
      generalize fb ((cs.toList.drop (i*e.size)).take e.size) (cE q e) (a.eval y).cells.toList=m at YT ⊢
      unfold fb
      rw[YT,bt]
     have wi:Tr c (c4 σ.H ups) w M' ν (bZ (c4 σ.H ups) id (some (.own e (List.set l i y1)))) (w.setRow b (fb cs.toList (i*e.size+cE q e) (a.eval y).cells.toList).toArray) M' ν:=by
      refine Tr.write (e':= .own e (List.set l i y1)) il.mem pt trivial trivial ⟨rfl,by rw[bN]⟩ (by rw[hb];simp[fL];omega) hg λPK hk Bn=> ?_
      simp only[ER]
      refine .inr ⟨b,_,te,cp,by rw[bN];exact hb,setRow_heap w b cs _ te _ hg,Bn,U9,by rw[bN];exact hl,G1,?_,?_⟩
      ·rw[←Zl,iZ,gD (by rw[px.length,bH];omega),bH];exact hs
      ·have h9:cs.toList.length=cp*e.size:=by rw[bH,hs]
       have h10:=qS.set (w:=w) (M:=M') (cs:=cs.toList) (l:=l) hr (by rw[h9];exact yn) Hl px
       rw[Zl]at h10
       exact λj hj=>(h10 j hj).ca hk
     refine qT dE ?_
     refine hn _ _ _ _ _ M' ν hK ?_ (by simp[VR])
     rw[gr]
     have:=il.trans wi
     unfold fb at this
     rw[bH]at this
     exact this
   ·cases h
  ·cases h
 ·cases h
theorem Fz.gh{H H1:Nat→Option bg}(h:Fz H H1){i:Nat}{τ:Ty}{x:τ.den}{p:List Step}{j:Nat}(hi:H i=some (.gh τ x p j)):H1 i=some (.gh τ x p j):=by
 rcases h i with h'|⟨e',l',h1,h2⟩
 ·rw[h',hi]
 ·rw[hi]at h1;cases h1
theorem yI{β:Type}{l a:List β}{o:Nat}(hl:o+a.length≤l.length)(i:Nat):(fb l o a)[i]? =if o≤i∧i<o+a.length then a[i-o]? else l[i]? :=by
 unfold fb
 by_cases h1:i<o
 ·rw[ah ω,bt,sf (by simp;omega),lO,aj h1]
 ·by_cases h2:i<o+a.length
  ·rw[aj ω,sf (by simp;omega),oF (by simp;omega)]
   simp[iy (show o≤l.length by omega)]
  ·rw[ah ω,oF (by simp;omega)]
   simp only[aS,cc,iy (show o≤l.length by omega),lP]
   congr 1;omega
theorem Mu{β:Type}{l a b:List β}{o o':Nat}(h:o'≤o∧o+a.length≤o'+b.length)(h1:o+a.length≤l.length)(h2:o'+b.length≤l.length):fb (fb l o a) o' b=fb l o' b:=by
 have l1:=gD (a:=l) (o:=o) (new:=a) h1
 apply zw
 intro i
 rw[yI ω,yI ω,yI ω]
 by_cases c1:o'≤i∧i<o'+b.length
 ·rw[aj c1,aj c1]
 ·rw[ah c1,ah c1,ah ω]
theorem Ib{β:Type}{l:List β}{o:Nat}{u v:β}(h:o<l.length):fb (fb l o [u]) o [v]=fb l o [v]:=
 Mu (by simp) (by simp;omega) (by simp;omega)
theorem Vx{β:Type}{l a b:List β}{o o':Nat}(h:o+a.length≤o'∨o'+b.length≤o)(h1:o+a.length≤l.length)(h2:o'+b.length≤l.length):fb (fb l o a) o' b=fb (fb l o' b) o a:=by
 have l1:=gD (a:=l) (o:=o) (new:=a) h1
 have l2:=gD (a:=l) (o:=o') (new:=b) h2
 apply zw
 intro i
 rw[yI ω,yI ω,yI ω,yI ω]
 by_cases c1:o'≤i∧i<o'+b.length
 ·rw[aj c1,ah ω,aj c1]
 ·rw[ah c1]
  by_cases c2:o≤i∧i<o+a.length
  ·rw[aj c2,aj c2]
  ·rw[ah c2,ah c2,ah c1]
theorem Mv{m:(υ:Ty)→υ.den→(υ.den→Option α)→Option α}: ∀{τ:Ty} {x:τ.den} {n:Nat} {k:τ.den→Option α},m1 τ x n m k=some r→ ∃υ y o k',Df τ x n υ y o∧m υ y k'=some r:=λh=>by
 obtain⟨υ,y,o,k',h1,h2,_⟩:=sq h
 exact⟨υ,y,o,k',h1,h2⟩
theorem EP{υ:Ty}{u:υ.den}: ∀{p:List Step} {τ:Ty} {x:τ.den} {k:τ.den→Option α},vp υ u p τ x k=some r→ ∃y o,JR p τ x υ y o
 |[],τ,x,k,h=>by
  obtain⟨e,_⟩:=bC (h:c7 υ τ u k=some r)
  subst e
  exact⟨x,0,.nil x⟩
 | .kC n::p,τ,x,k,h=>by
  obtain⟨υ',y,o,k',hf,hm⟩:=Mv (h:m1 τ x n _ k=some r)
  obtain⟨y',o',hp⟩:=EP (k:=k') hm
  exact⟨y',_,.kC hf hp⟩
 | .idx i::p,τ,x,k,h=>by
  cases τ with
  |arr n e=>
   obtain⟨y',o',hp⟩:=EP (p:=p) (τ:=e) (x:=List.getD x i e.zero) (k:=λz=>k (List.set x i z)) h
   exact⟨y',_,.idx hp⟩
  |_=>simp[vp,DO]at h
theorem Ic: ∀{p q:List Step} {τ e:Ty},xR p q=true→gM q τ (.slice e)=true→cE p τ≤cE q τ∧cE q τ+1≤cE p τ+(Hh p τ).size
 |[],q,τ,e,_,hq=>by
  obtain⟨_,_,xY⟩:=tp hq τ.zero
  have:=xY.bound (kJ hq).1
  have h2:=xY.eq.2
  have:(Ty.slice e).size=1:=rfl
  simp only[cE,Hh]
  omega
 | .kC a::p,.kC b::q,τ,e,hp,hq=>by
  simp only[xR,bQ]at hp
  have:=fW hp.1
  subst this
  unfold gM at hq
  split at hq
  ·rename_i c hc
   obtain⟨_,_,hf⟩:=tk hc τ.zero
   have:=hf.eq.1
   subst this
   have:=Ic hp.2 hq
   simp only[cE,Hh]
   omega
  ·cases hq
 | .kC _::_,[],_,_,hp,_| .kC _::_,.idx _::_,_,_,hp,_| .idx _::_,_,_,_,hp,_=>by simp[xR]at hp
theorem ER.S6{H:Nat→Option bg}(hm:Mem c H w M ν){k:Nat}{e:Ty}{l:List e.den}(hk:H k=some (.own e l)): ∃ad cp,ν k= .slice ad l.length cp:=by
 have:=hm.kZ k _ hk
 simp only[ER]at this
 rcases this with⟨rfl,a,hv⟩|⟨b,cs,t,cap,hv,_⟩
 ·exact⟨a,0,hv⟩
 ·exact⟨_,cap,hv⟩
theorem ES(hE:EnvTy P E)(hc:Core c σ a.tmps w M ν){t:TypeId}{x y:Operand}(ho:o.op= .store t x y){K:jb α}{τ:Ty}(ht:E.ty t=some τ){id k:Nat}{q:List Step}{e:Ty}{υ:Ty}{z:υ.den}
  (hx:σ.ρ x= .jn id q) (hy:σ.ρ y= .ref k) {en:bg} (bf:σ.H id=some en) (hen:en.mut) (Ie:en.ll (.gh υ z q k)) (hq:gM q υ (.slice e)=true)
  (lq: ∃b cs te sm u,ν id= .pointer (some ⟨b,0,none⟩)∧w.heap[b]? =some (.cells cs te (0,0))∧Rd w M υ sm z∧cs.toList=fb sm (cE q υ) [u])
  (h:Cj τ id k e q υ z σ.H K=some r) (hn:gd c σ a o w M ν K r next):o.wp P a w next Q:=by
 unfold Cj at h
 split at h
 ·rename_i e' l hk
  obtain⟨e1,h1⟩:=fZ h
  clear h
  subst e1
  obtain⟨e2,h2⟩:=fZ h1
  clear h1
  subst e2
  obtain⟨z',hK,EO,G7,xX⟩:=oY h2
  obtain⟨b,cs,te,sm,u,hb,hg,hr,JV⟩:=lq
  have Vv:=(kJ hq).1
  obtain⟨ad,cp,hνk⟩:=ER.S6 hc.mem hk
  have Dj:=hc.ev y
  rw[hy]at Dj
  simp only[VR]at Dj
  have Dj:=Dj.2
  have G7:=G7 Vv
  have hlen:=hr.length
  have Lx:(Ty.slice e').size=1:=rfl
  have e9:cE q υ<sm.length:=ω
  have Mt:cs.toList.length=sm.length:=by rw[JV];exact gD (by simp;omega)
  have hv:=hc.ev x
  rw[hx]at hv
  simp only[VR]at hv
  obtain⟨e3,he3,nM⟩:=hv
  rw[bf]at he3;cases he3
  have nM:=nM.ll Ie
  simp only[AR]at nM
  obtain⟨_,b',eY,hu⟩:=nM
  rw[hb]at eY;cases eY
  have hyc:(a.eval y).cells.toList=[ν k]:=by rw[Dj,hνk];rfl
  have s0:(a.eval y).cells.size=(Ty.slice e').size:=by rw[←bH,hyc];rfl
  have dE:=m5 (P:=P) ho (hE.ty t _ ht) hu hg s0 (by rw[←bH];omega) (by rw[hyc,hνk];simp[Value.oneCell'])
  have px:(cs.toList.take (cE q υ)++(a.eval y).cells.toList++cs.toList.drop (cE q υ+(a.eval y).cells.toList.length))=fb sm (cE q υ) [ν k]:=by
   rw[hyc]
   show fb cs.toList (cE q υ) [ν k]=_
   rw[JV,Ib e9]
  rw[px]at dE
  have hrz:Rd w M υ (fb sm (cE q υ) [.slice none 0 0]) z':=xX w M sm [.slice none 0 0] Vv hr (Rd.zero w M (.slice e'))
  have il:Tr c σ.H w M ν (bZ σ.H id (some (.gh υ z' q k))) (w.setRow b (fb sm (cE q υ) [ν k]).toArray) M ν:=by
   refine Tr.write (e':= .gh υ z' q k) hc.mem bf hen trivial (by cases en<;>simp only[bg.ll]at Ie ⊢ <;>exact Ie) (by rw[hb];rfl) hg (λPK DS Bn=> ?_) (fun τ' x' p' j' hl=> ?_)
   ·simp only[ER]
    refine⟨b,_,te,fb sm (cE q υ) [.slice none 0 0],ν k,hb,setRow_heap w b cs _ te _ hg,Bn,hrz.ca DS,?_,by rw[hνk];rfl,e',hq⟩
    rw[Ib e9]
   ·cases hl
    refine⟨by rw[hk];simp,b,hb,?_⟩
    rw[cell_of (setRow_heap w b cs _ te _ hg),←gR]
    show(fb sm (cE q υ) [ν k])[cE q υ]? =_
    rw[DR e9]
  exact qT dE (hn _ _ _ _ _ M ν hK il (by simp[VR]))
 ·cases h
theorem ET(hE:EnvTy P E)(hc:Core c σ a.tmps w M ν){t:TypeId}{x y:Operand}(ho:o.op= .store t x y){K:jb α}{τ:Ty}(ht:E.ty t=some τ)
  (h:jZ E τ (σ.ρ x) (σ.ρ y) σ.H K=some r) (hn:gd c σ a o w M ν K r next):o.wp P a w next Q:=by
 have hold:lX τ (σ.ρ x) (σ.ρ y) σ.H K=some r→o.wp P a w next Q:=λh=>S5 hE hc ho ht h hn
 unfold jZ at h
 simp only at h
 split at h
 ·rename_i id p hx
  have oX:=hx
  split at h
  ·rename_i υ z bf
   split at h
   ·rename_i q e k sS hy
    cases hp:Me p q
    ·rw[hp]at h;exact hold h
    ·rw[hp]at h
     simp only[aq]at h
     have:=Bk hp
     subst this
     have hq:=tv sS
     have mJ:=hc.mem.kZ id _ bf
     simp only[ER]at mJ
     obtain⟨b,cs,te,hb,hg,hM,hr⟩:=mJ
     have e9:cE p υ<cs.toList.length:=by
      obtain⟨_,_,xY⟩:=tp hq z
      have:=xY.bound (kJ hq).1
      have h2:=xY.eq.2
      have:=hr.length
      have:(Ty.slice e).size=1:=rfl
      omega
     refine ES hE hc ho ht hx hy bf trivial rfl hq ⟨b,cs,te,cs.toList,cs.toList[cE p υ],hb,hg,hr,?_⟩ h hn
     exact(Mn (bk e9)).symm
   ·exact hold h
  ·rename_i υ z q j bf
   obtain⟨b,cs,te,sm,e0,hb,hg,hM,hr,JV,h1,hq,e9,hj⟩:=hc.mem.linked bf
   have zY:lV true (σ.ρ y) σ.H τ (λy rd ups=>vp τ y p υ z λz=>K .any (id::rd) (ups++[(id,some (cond (xR p q) (.obj υ z) (.gh υ z q j)))]))=some r→o.wp P a w next Q:=by
    intro h
    obtain⟨u,rd,ups,M',h,il,hV,hz,kV⟩:=n6 (.refl _) hc.mem (hc.ev y) h
    have pt:=hz.gh bf
    have hv:=hc.ev x
    rw[hx]at hv
    have hvz:=VR.ca il.ca il.goes hv
    simp only[VR]at hvz
    obtain⟨e1,P2,nM⟩:=hvz
    rw[pt]at P2;cases P2
    simp only[AR]at nM
    obtain⟨hi,b1,mw,hu⟩:=nM
    rw[hb]at mw;cases mw
    obtain⟨b2,cs2,te2,cs3,e3,tU,Vw,JW,yH,Zm,h12,YU,alz,hj2⟩:=il.mem.linked pt
    rw[hb]at tU;cases tU
    rw[hg]at Vw;cases Vw
    obtain⟨z',hK,EO,G7,xX⟩:=oY h
    have G7:=G7 hi
    have Zi:=yH.length
    have Mt:cs.toList.length=cs3.length:=by rw[Zm];exact gD (by simp;omega)
    have hcy:=hV.cells.length
    rw[bH]at hcy
    have axT:(a.eval y).cells.toList.length=τ.size:=by rw[bH];exact hcy
    have dE:=m5 (P:=P) ho (hE.ty t _ ht) hu hg hcy (by rw[←bH];omega) hV.cells.oI
    have Vy:cs.toList.take (cE p υ)++(a.eval y).cells.toList++cs.toList.drop (cE p υ+(a.eval y).cells.toList.length)=fb cs.toList (cE p υ) (a.eval y).cells.toList:=rfl
    rw[Vy]at dE
    have hzr:=xX w M' cs3 _ hi yH hV.cells
    have fin: ∀e',e'.mut→bg.ll (.gh υ z q j) e'→K .any (id::rd) (ups++[(id,some e')])=some r→(∀PK,e8 w M' (w.setRow b (fb cs.toList (cE p υ) (a.eval y).cells.toList).toArray) PK→PK b→ER (w.setRow b (fb cs.toList (cE p υ) (a.eval y).cells.toList).toArray) PK (ν id) e')→
      (∀τ' x' p' j',e'= .gh τ' x' p' j'→(c4 σ.H ups) j'≠none∧ ∃b',ν id= .pointer (some ⟨b',0,none⟩)∧(w.setRow b (fb cs.toList (cE p υ) (a.eval y).cells.toList).toArray).cell? ⟨b',cE p' τ',none⟩=some (ν j'))→o.wp P a w next Q:=by
     intro e' jQ JQ hK S1 sS
     have wi:=Tr.write (e':=e') il.mem pt trivial jQ JQ (by rw[hb];rfl) hg S1 sS
     refine qT dE (hn _ _ _ _ _ M' ν hK ?_ (by simp[VR]))
     rw[gr]
     exact il.trans wi
    cases G0:xR p q
    ·rw[G0]at hK
     simp only[av]at hK
     obtain⟨yy,oo,xY⟩: ∃y o,JR p υ z τ y o:=EP h
     have hap:=xY.apart hi hq G0
     have hoo:=xY.eq.2
     subst hoo
     have afL:fb cs.toList (cE p υ) (a.eval y).cells.toList=fb (fb cs3 (cE p υ) (a.eval y).cells.toList) (cE q υ) [ν j]:=by
      rw[Zm]
      exact Vx (by simp only[aI];omega) (by simp only[aI];omega) ω
     have YT:=gD (a:=cs3) (o:=cE p υ) (new:=(a.eval y).cells.toList) ω
     refine fin (.gh υ z' q j) trivial rfl hK (λPK hk Bn=> ?_) (fun τ' x' p' j' hl=> ?_)
     ·simp only[ER]
      exact⟨b,_,te,_,ν j,hb,setRow_heap w b cs _ te _ hg,Bn,hzr.ca hk,afL,h1,e0,hq⟩
     ·cases hl
      refine⟨hj2,b,hb,?_⟩
      rw[cell_of (setRow_heap w b cs _ te _ hg),←gR]
      show(fb cs.toList (cE p υ) (a.eval y).cells.toList)[cE q υ]? =_
      rw[afL,DR ω]
    ·rw[G0]at hK
     simp only[aq]at hK
     refine fin (.obj υ z') trivial rfl hK (λPK hk Bn=> ?_) (fun τ' x' p' j' hl=>by cases hl)
     simp only[ER]
     refine⟨b,_,te,hb,setRow_heap w b cs _ te _ hg,Bn,?_⟩
     show Rd _ _ υ (fb cs.toList (cE p υ) (a.eval y).cells.toList) z'
     have lT:=Ic G0 hq
     rw[EO]at lT
     have ho:fb cs.toList (cE p υ) (a.eval y).cells.toList=fb cs3 (cE p υ) (a.eval y).cells.toList:=by
      rw[Zm]
      exact Mu (by simp only[aI];omega) (by simp only[aI];omega) ω
     have h9:=hzr.ca hk
     rw[←ho]at h9
     exact h9
   split at h
   ·rename_i q' e k sS hy
    cases hp:(Me p q&&Me q q')
    ·rw[hp]at h;exact zY h
    ·rw[hp]at h
     simp only[aq]at h
     rw[bQ]at hp
     have:=Bk hp.1
     subst this
     have:=Bk hp.2
     subst this
     refine ES hE hc ho ht hx hy bf trivial rfl (tv sS) ⟨b,cs,te,sm,ν j,hb,hg,hr,JV⟩ h hn
   ·exact zY h
  ·exact hold h
 ·exact hold h
theorem S7(hE:EnvTy P E)(hc:Core c σ a.tmps w M ν){t:TypeId}{x y:Operand}(ho:o.op= .store t x y){K:jb α}{τ:Ty}(ht:E.ty t=some τ)
  (h:sP E τ (σ.ρ x) (σ.ρ y) σ.H K=some r) (hn:gd c σ a o w M ν K r next):o.wp P a w next Q:=by
 unfold sP at h
 split at h
 ·rename_i id υ z n hx hy
  split at h
  ·rename_i m e sS
   cases EN:Nat.beq m n
   ·rw[EN]at h
    simp only[av]at h
    exact ET hE hc ho ht h hn
   ·rw[EN]at h
    simp only[aq]at h
    have EN:=fW EN
    subst EN
    obtain⟨e1,h1⟩:=fZ h
    clear h
    subst e1
    have hq:=tv sS
    have Dj:=hc.ev y
    rw[hy]at Dj
    simp only[VR]at Dj
    obtain⟨hV,cs,ad,hva,hz⟩:=Dj
    have hcy:(a.eval y).cells=cs:=by rw[hva];rfl
    obtain⟨en,bf,hen,hK⟩: ∃en:bg,σ.H id=some en∧(∃z0,en= .obj τ z0∨ ∃q j,en= .gh τ z0 q j)∧σ.H (id+2)=none∧K .any [id,id+2] [(id,some (.gh τ z [.kC m] (id+2))),(id+2,some (.own e []))]=some r:=by
     unfold m3 at h1
     split at h1
     ·rename_i υ z0 bf
      obtain⟨e2,h2⟩:=fZ h1
      clear h1
      subst e2
      obtain⟨h3,h4⟩:=ln h2
      exact⟨_,bf,⟨z0,.inl rfl⟩,h3,h4⟩
     ·rename_i υ z0 q j bf
      obtain⟨e2,h2⟩:=fZ h1
      clear h1
      subst e2
      obtain⟨h3,h4⟩:=ln h2
      exact⟨_,bf,⟨z0,.inr ⟨q,j,rfl⟩⟩,h3,h4⟩
     ·cases h1
     ·cases h1
     ·cases h1
    obtain⟨hk,hK⟩:=hK
    have aqW:en.mut:=by rcases hen with⟨z0,rfl|⟨q,j,rfl⟩⟩<;>trivial
    have Ie:en.ll (.obj τ z):=by rcases hen with⟨z0,rfl|⟨q,j,rfl⟩⟩<;>rfl
    obtain⟨b,sm,te,hb,hg,s0⟩: ∃b sm te,ν id= .pointer (some ⟨b,0,none⟩)∧w.heap[b]? =some (.cells sm te (0,0))∧sm.toList.length=τ.size:=by
     rcases hen with⟨z0,rfl|⟨q,j,rfl⟩⟩
     ·have:=hc.mem.kZ id _ bf
      simp only[ER]at this
      obtain⟨b,sm,te,h2,h3,_,h5⟩:=this
      exact⟨b,sm,te,h2,h3,h5.length⟩
     ·obtain⟨b,sm,te,zh,_,h2,h3,_,h5,h6,_,_,h7,_⟩:=hc.mem.linked bf
      refine⟨b,sm,te,h2,h3,?_⟩
      rw[h6,gD (by simp only[aI];omega),h5.length]
    have hv:=hc.ev x
    rw[hx]at hv
    simp only[VR]at hv
    obtain⟨e3,he3,nM⟩:=hv
    rw[bf]at he3;cases he3
    have nM:=nM.ll Ie
    simp only[AR]at nM
    obtain⟨_,b',eY,hu⟩:=nM
    rw[hb]at eY;cases eY
    have Mt:=hV.cells.length
    have dE:=m5 (P:=P) ho (hE.ty t _ ht) hu hg (by rw[←bH];exact Mt) (by rw[←bH,s0];simp[cE]) hV.cells.oI
    have Vy:sm.toList.take (cE [] τ)++(a.eval y).cells.toList++sm.toList.drop (cE [] τ+(a.eval y).cells.toList.length)=(a.eval y).cells.toList:=by
     simp only[cE,oS,cJ,gk]
     rw[kE ω,ch]
    rw[Vy]at dE
    have xX:=setRow_heap w b sm (a.eval y).cells.toList.toArray te _ hg
    have il:=Tr.write (e':= .obj τ z) (new:=(a.eval y).cells.toList.toArray) hc.mem bf aqW trivial Ie (by rw[hb];rfl) hg (λPK DS Bn=>by
     simp only[ER]
     exact⟨b,_,te,hb,xX,Bn,hV.cells.ca DS⟩)
    have jy:id+2≠id:=ω
    have wi:=Tr.Vt il.mem (id:=id) (k:=id+2) (by rw[az _ _ jy];exact hk) (ax _ _ _) hb xX hq (ad:=ad) (by rw[hcy];simpa [cE]using hz)
    have e1:c4 (bZ σ.H id (some (.obj τ z))) [(id,some (.gh τ z [.kC m] (id+2))),(id+2,some (.own e []))]=c4 σ.H [(id,some (.gh τ z [.kC m] (id+2))),(id+2,some (.own e []))]:=by
     show bZ (bZ (bZ σ.H id _) id _) (id+2) _=bZ (bZ σ.H id _) (id+2) _
     rw[yF]
    rw[e1]at wi
    exact qT dE (hn _ _ _ _ _ _ _ hK (il.trans wi) (by simp[VR]))
  ·exact ET hE hc ho ht h hn
 ·exact ET hE hc ho ht h hn
end VM
end
section
namespace VM
open Go
variable{P:Program}{E:Env}{o:Oper}{a:Act}{w:World}{M:Nat→Prop}{ν:Nat→Value}{σ:St}{c:Ctx}{α:Type}{r:α}{next:Act→World→Prop}{Q:Exit→Act→World→Prop}
theorem nb{n:Nat}(h:Nat.beq n 0=false):n≠0:=by rw[←mV,vT]at h;exact h
theorem At.sub{b off:Nat}{cs:List Value}(h:At w b off cs)(o n:Nat):At w b (off+o) ((cs.drop o).take n):=by
 intro j v hj
 rw[lO]at hj
 split at hj
 ·rw[lP]at hj
  have:=h _ v hj
  rwa [←oT]at this
 ·cases hj
def wj:bg→List Step→Option Ty
 | .obj τ _,p=>some (Hh p τ)
 | .gh τ _ _ _,p=>some (Hh p τ)
 | .own e _,.idx _::p| .oH e _,.idx _::p=>some (Hh p e)
 |_,_=>none
theorem EU{id:Nat}{p:List Step}{H:Nat→Option bg}{k:Ty→Option α}(h:m3 id p H k=some r): ∃e υ,H id=some e∧wj e p=some υ∧k υ=some r:=by
 unfold m3 at h
 split at h
 ·rename_i τ x bf
  obtain⟨υ,y,o,hp,hk⟩:=kb h
  exact⟨_,υ,bf,by simp[wj,hp.eq.1],hk⟩
 ·rename_i τ x _ _ bf
  obtain⟨υ,y,o,hp,hk⟩:=kb h
  exact⟨_,υ,bf,by simp[wj,hp.eq.1],hk⟩
 ·rename_i e l bf
  split at h
  ·obtain⟨υ,y,o,hp,hk⟩:=kb h
   exact⟨_,υ,bf,by simp[wj,hp.eq.1],hk⟩
  ·cases h
 ·rename_i e l bf
  split at h
  ·obtain⟨υ,y,o,hp,hk⟩:=kb h
   exact⟨_,υ,bf,by simp[wj,hp.eq.1],hk⟩
  ·cases h
 ·cases h
theorem AR.step{v:Value}{p:List Step}{u:Value}{e:bg}{υ:Ty}(h:AR v p u e)(ht:wj e p=some υ)(s:Step)(hs:xU [s] υ):
  ∃b off,u= .pointer (some ⟨b,off,none⟩)∧AR v (p++[s]) (.pointer (some ⟨b,off+cE [s] υ,none⟩)) e:=by
 cases e with
 |obj τ x=>
  simp only[wj,iw]at ht
  simp only[AR]at h ⊢
  obtain⟨hi,b,hb,rfl⟩:=h
  subst ht
  exact⟨b,_,rfl,(sl p [s] τ).2 ⟨hi,hs⟩,b,hb,by rw[sj]⟩
 |gh τ x _ _=>
  simp only[wj,iw]at ht
  simp only[AR]at h ⊢
  obtain⟨hi,b,hb,rfl⟩:=h
  subst ht
  exact⟨b,_,rfl,(sl p [s] τ).2 ⟨hi,hs⟩,b,hb,by rw[sj]⟩
 |own e l=>
  simp only[AR]at h ⊢
  obtain⟨i,q,rfl,Hl,hi,b,n,cp,hb,rfl⟩:=h
  simp only[wj,iw]at ht
  subst ht
  exact⟨b,_,rfl,i,q++[s],rfl,Hl,(sl q [s] e).2 ⟨hi,hs⟩,b,n,cp,hb,by rw[sj,oT]⟩
 |oH e l=>
  simp only[AR]at h ⊢
  obtain⟨i,q,rfl,Hl,hi,b,n,cp,hb,rfl⟩:=h
  simp only[wj,iw]at ht
  subst ht
  exact⟨b,_,rfl,i,q++[s],rfl,Hl,(sl q [s] e).2 ⟨hi,hs⟩,b,n,cp,hb,by rw[sj,oT]⟩
 |gone=>simp[wj]at ht
theorem Bo(hE:EnvTy P E)(hc:Core c σ a.tmps w M ν){t:TypeId}{x:Operand}{n:Nat}(ho:o.op= .fieldAddr t x n){K:jb α}{τ:Ty}(ht:E.ty t=some τ){id:Nat}{p:List Step}(hx:σ.ρ x= .jn id p)
  (h:m3 id p σ.H (fun υ=>m2 υ τ (xS τ τ.zero n fun υ' _=>cond (Nat.beq υ'.size 0) none (K (.jn id (p++[.kC n])) [id] [])))=some r) (hn:gd c σ a o w M ν K r next):o.wp P a w next Q:=by
 obtain⟨e,υ,bf,het,h⟩:=EU h
 obtain⟨he_,h_⟩:=fZ h
 clear h
 subst he_
 have h:=h_
 clear h_
 obtain⟨υ',y,of,hf,h⟩:=tj h
 obtain⟨hz,h⟩:=my h
 have hv:=hc.ev x
 rw[hx]at hv
 simp only[VR]at hv
 obtain⟨e',wc,nM⟩:=hv
 rw[bf]at wc;cases wc
 obtain⟨b,off,hu,ag0⟩:=nM.step het (.kC n) trivial
 obtain⟨fs,f,PL,hff,hfo,S8⟩:=(hE.ty t υ ht).kC hf
 obtain⟨v,dE,hvv⟩:=tu (P:=P) ho (w:=w) PL hff S8 (nb hz) hu
 refine a7 dE (hn _ _ _ _ _ M ν h (.refl hc.mem) ?_)
 simp only[VR]
 refine⟨e,bf,?_⟩
 rw[hvv,hfo,hf.eq.2]
 simpa [cE]using ag0
theorem zZ(hE:EnvTy P E)(hc:Core c σ a.tmps w M ν){t:TypeId}{x:Operand}{n:Nat}(ho:o.op= .fieldAddr t x n){K:jb α}{τ:Ty}(ht:E.ty t=some τ){υ:Ty}{z:υ.den}(hx:σ.ρ x= .qM υ z)
  (h:m2 υ τ (xS υ z n fun υ y=>cond (Nat.beq υ.size 0) none (K (.qM υ y) [] []))=some r) (hn:gd c σ a o w M ν K r next):o.wp P a w next Q:=by
 obtain⟨he,h1⟩:=fZ h
 subst he
 obtain⟨υ',y,of,hf,h⟩:=tj h1
 obtain⟨hz,h⟩:=my h
 have hv:=hc.ev x
 rw[hx]at hv
 simp only[VR]at hv
 obtain⟨b,off,hu,hb,hM,cs,pY,hr⟩:=hv
 obtain⟨fs,f,PL,hff,hfo,S8⟩:=(hE.ty t υ ht).kC hf
 obtain⟨v,dE,hvv⟩:=tu (P:=P) ho (w:=w) PL hff S8 (nb hz) hu
 refine a7 dE (hn _ _ _ _ _ M ν h (.refl hc.mem) ?_)
 simp only[VR]
 exact⟨b,off+f.offset,hvv,hb,hM,_,by rw[hfo];exact pY.sub of υ'.size,hf.rd hr⟩
theorem V.agg{τ:Ty}(ha:τ.isAgg=true){v:Value}{x:τ.den}(h:V w M τ v x): ∃cs,v= .agg cs∧Rd w M τ cs.toList x:=by
 unfold V at h;rw[aj ha]at h;exact h
theorem Df.agg{τ:Ty}{x:τ.den}{n:Nat}{υ:Ty}{y:υ.den}{o:Nat}(h:Df τ x n υ y o):τ.isAgg=true:=by cases h<;>rfl
theorem Vz(hE:EnvTy P E)(hc:Core c σ a.tmps w M ν){t:TypeId}{x:Operand}{n:Nat}(ho:o.op= .field t x n){K:jb α}{τ:Ty}(ht:E.ty t=some τ){υ:Ty}{z:υ.den}(hx:σ.ρ x= .val υ z)
  (h:m2 υ τ (xS υ z n fun υ y=>K (.val υ y) [] [])=some r) (hn:gd c σ a o w M ν K r next):o.wp P a w next Q:=by
 obtain⟨he,h1⟩:=fZ h
 subst he
 obtain⟨υ',y,of,hf,h⟩:=tj h1
 have hv:=hc.ev x
 rw[hx]at hv
 simp only[VR]at hv
 obtain⟨cs,hu,hr⟩:=hv.agg hf.agg
 obtain⟨fs,f,PL,hff,hfo,S8⟩:=(hE.ty t υ ht).kC hf
 have eM:=hf.rd hr
 refine a7 (JU ho PL hff S8 hu (by rw[hfo];exact eM)) (hn _ _ _ _ _ M ν h (.refl hc.mem) ?_)
 simp only[VR]
 rw[hfo]
 exact V.cK eM
theorem JX(hE:EnvTy P E)(hc:Core c σ a.tmps w M ν){t:TypeId}{x i:Operand}(ho:o.op= .indexAddr t x i){K:jb α}{τ:Ty}(ht:E.ty t=some τ)
  (h:gC τ (σ.ρ x) (σ.ρ i) σ.H K=some r) (hn:gd c σ a o w M ν K r next):o.wp P a w next Q:=by
 unfold gC at h
 obtain⟨k,n,hi,h2⟩:=m6 h
 clear h
 have h:=h2
 clear h2
 have Ry:=hc.ev i
 rw[hi]at Ry
 have Ry:=Ry.int
 have hv:=hc.ev x
 have zW:=hE.ty t τ ht
 split at h
 ·
  rename_i e
  obtain⟨e',PL,hle⟩:=zW.slice
  split at h
  ·rename_i υ l hx
   obtain⟨e1,h⟩:=bC h
   subst e1
   obtain⟨lT,h⟩:=cy h
   obtain⟨h0,h1⟩:=ug lT
   have h1:n<(List.length l:Int):=h1
   rw[hx]at hv
   simp only[VR]at hv
   have hv:=V.slice.1 hv
   simp only[Rd,fh,eS]at hv
   obtain⟨ad,cap,hu,alC,hr⟩:=hv
   obtain⟨b,off,rfl,hb,hM,cs,pY,kV⟩:=hr n.toNat ω
   refine a7 (la ho PL hle hu Ry h0 h1) (hn _ _ _ _ _ M ν h (.refl hc.mem) ?_)
   simp only[VR]
   refine⟨b,_,rfl,hb,hM,cs,pY,?_⟩
   have:Rd w M e cs (List.getD l n.toNat e.zero):=by rw[kI l n.toNat e.zero ω];exact kV
   exact this
  ·rename_i id hx
   rw[hx]at hv
   simp only[VR]at hv
   obtain⟨_,hu⟩:=hv
   split at h
   ·rename_i e2 l bf
    obtain⟨he_,h_⟩:=fZ h
    clear h
    subst he_
    have h:=h_
    clear h_
    obtain⟨lT,h⟩:=cy h
    obtain⟨h0,h1⟩:=ug lT
    have mJ:=hc.mem.kZ id _ bf
    simp only[ER]at mJ
    rcases mJ with⟨rfl,_⟩|⟨b,cs,te,cap,hb,hg,hM,U9,hl,G1,hs,hr⟩
    ·simp at h1;omega
    ·rw[hb]at hu
     refine a7 (la ho PL hle hu Ry h0 h1) (hn _ _ _ _ _ M ν h (.refl hc.mem) ?_)
     simp only[VR]
     refine⟨_,bf,?_⟩
     simp only[AR]
     exact⟨n.toNat,[],rfl,ω,trivial,b,_,_,hb,by simp[cE]⟩
   ·rename_i e2 l bf
    obtain⟨he_,h_⟩:=fZ h
    clear h
    subst he_
    have h:=h_
    clear h_
    obtain⟨lT,h⟩:=cy h
    obtain⟨h0,h1⟩:=ug lT
    have mJ:=hc.mem.kZ id _ bf
    simp only[ER]at mJ
    obtain⟨kV,hhd⟩:=mJ
    simp only[Rd,fh,eS]at kV
    obtain⟨ad,cap,hb,alC,hr⟩:=kV
    rcases hhd with⟨rfl,_⟩|⟨b,n2,c2,tU⟩
    ·simp at h1;omega
    ·rw[hb]at tU;cases tU
     rw[hb]at hu
     refine a7 (la ho PL hle hu Ry h0 h1) (hn _ _ _ _ _ M ν h (.refl hc.mem) ?_)
     simp only[VR]
     refine⟨_,bf,?_⟩
     simp only[AR]
     exact⟨n.toNat,[],rfl,ω,trivial,b,_,_,hb,by simp[cE]⟩
   ·cases h
  ·cases h
 ·
  rename_i len e
  obtain⟨e',PL,hle⟩:=zW.arr
  split at h
  ·rename_i id p hx
   obtain⟨en,υ,bf,het,h⟩:=EU h
   obtain⟨he_,h_⟩:=fZ h
   clear h
   subst he_
   have h:=h_
   clear h_
   obtain⟨lT,h⟩:=cy h
   obtain⟨h0,h1⟩:=ug lT
   rw[hx]at hv
   simp only[VR]at hv
   obtain⟨en',wc,nM⟩:=hv
   rw[bf]at wc;cases wc
   obtain⟨b,off,hu,ag0⟩:=nM.step het (.idx n.toNat) ⟨⟨len,e,rfl,ω⟩,trivial⟩
   refine a7 (so ho PL hle hu Ry h0 h1) (hn _ _ _ _ _ M ν h (.refl hc.mem) ?_)
   simp only[VR]
   refine⟨en,bf,?_⟩
   simpa [cE,elT]using ag0
  ·rename_i υ l hx
   obtain⟨e1,h⟩:=bC h
   subst e1
   obtain⟨lT,h⟩:=cy h
   obtain⟨h0,h1⟩:=ug lT
   rw[hx]at hv
   simp only[VR]at hv
   obtain⟨b,off,hu,hb,hM,cs,pY,hr⟩:=hv
   refine a7 (so ho PL hle hu Ry h0 h1) (hn _ _ _ _ _ M ν h (.refl hc.mem) ?_)
   simp only[VR]
   exact⟨b,_,rfl,hb,hM,_,pY.sub _ e.size,hr.idx ω⟩
  ·cases h
 ·cases h
theorem Dl(hc:Core c σ a.tmps w M ν){x:Operand}(ho:o.op= .nilCheck x){K:jb α}{id:Nat}{p:List Step}(hx:σ.ρ x= .jn id p)
  (h:K (.jn id p) [] []=some r) (hn:gd c σ a o w M ν K r next):o.wp P a w next Q:=by
 have hv:=hc.ev x
 have VA:=hv
 rw[hx]at hv
 simp only[VR]at hv
 obtain⟨e,he,nM⟩:=hv
 obtain⟨ad,hu⟩:=nM.ptr
 refine a7 (vd ho hu) (hn _ _ _ _ _ M ν h (.refl hc.mem) ?_)
 rw[←hu,←hx];exact VA
theorem Bp(hc:Core c σ a.tmps w M ν){x:Operand}(ho:o.op= .nilCheck x){K:jb α}{τ:Ty}{z:τ.den}(hx:σ.ρ x= .qM τ z)
  (h:K (.qM τ z) [] []=some r) (hn:gd c σ a o w M ν K r next):o.wp P a w next Q:=by
 have hv:=hc.ev x
 have VA:=hv
 rw[hx]at hv
 simp only[VR]at hv
 obtain⟨b,off,hu,_⟩:=hv
 refine a7 (vd ho hu) (hn _ _ _ _ _ M ν h (.refl hc.mem) ?_)
 rw[←hu,←hx];exact VA
theorem jq.get{H:Nat→Option bg}: ∀{pW:List bD} {vs:List Value},jq w M H ν pW vs→ ∀{i:Nat} {x:bD},pW[i]? =some x→ ∃v,vs[i]? =some v∧VR w M H ν x v
 |[],_,_,i,x,hx=>by simp at hx
 |y::pW,[],h,_,_,_=>by simp[jq]at h
 |y::pW,v::vs,h,0,x,hx=>by
  simp only[jq]at h
  simp at hx;subst hx
  exact⟨v,rfl,h.1⟩
 |y::pW,v::vs,h,i+1,x,hx=>by
  simp only[jq]at h
  exact jq.get h.2 (by simpa using hx)
theorem P3(hc:Core c σ a.tmps w M ν){x:Operand}{i:Nat}(ho:o.op= .extract x i){K:jb α}{vs:List bD}{v:bD}(hx:σ.ρ x= .tup vs)(hi:vs[i]? =some v)
  (h:K v [] []=some r) (hn:gd c σ a o w M ν K r next):o.wp P a w next Q:=by
 have hv:=hc.ev x
 rw[hx]at hv
 simp only[VR]at hv
 obtain⟨us,hu,Zn⟩:=hv
 obtain⟨u,hui,hvu⟩:=Zn.get hi
 exact a7 (EK ho hu hui) (hn _ _ _ _ _ M ν h (.refl hc.mem) hvu)
theorem Core.evs(hc:Core c σ a.tmps w M ν): ∀xs:List Operand,jq w M σ.H ν (xs.map σ.ρ) (xs.map a.eval)
 |[]=>by simp[jq]
 |x::xs=>by simp only[bX,jq];exact⟨hc.ev x,hc.evs xs⟩
theorem wk: ∀{pW:List bD} {vs:List Value} {H:Nat→Option bg} {M:Nat→Prop} {K:List bD→List Nat→iX→Option α},Mem c H w M ν→jq w M H ν pW vs→vY H pW K=some r→
  ∃cs rd ups M',K cs rd ups=some r∧Tr c H w M ν (c4 H ups) w M' ν∧jq w M' (c4 H ups) ν cs vs
 |[],vs,H,M,K,hm,hv,h=>⟨[],[],[],M,h,.refl hm,hv⟩
 |x::xs,[],H,M,K,hm,hv,h=>by simp[jq]at hv
 |x::xs,v::vs,H,M,K,hm,hv,h=>by
  simp only[jq]at hv
  unfold vY at h
  split at h
  ·rename_i id
   split at h
   ·rename_i τ z bf
    obtain⟨M1,b,ht,hb,e9,hM,sm,pY,kV⟩:=Tr.fix hm bf
    obtain⟨cs,rd,ups,M2,hK,Va,Zo⟩:=wk ht.mem (jq.ca ht.ca ht.goes hv.2) h
    refine⟨_,_,_,M2,hK,ht.trans Va,?_⟩
    have h1:VR w M1 (bZ H id (some .gone)) ν (.qM τ z) v:=by
     have P4:=hv.1
     simp only[VR]at P4 ⊢
     obtain⟨e,he,nM⟩:=P4
     rw[bf]at he;cases he
     simp only[AR]at nM
     obtain⟨_,b',eY,P4⟩:=nM
     rw[hb]at eY;cases eY
     exact⟨b,0,P4,e9,hM,sm,pY,kV⟩
    simp only[jq]
    exact⟨VR.ca Va.ca Va.goes h1,Zo⟩
   ·cases h
  ·obtain⟨cs,rd,ups,M2,hK,Va,Zo⟩:=wk hm hv.2 h
   refine⟨_,_,_,M2,hK,Va,?_⟩
   simp only[jq]
   exact⟨VR.ca Va.ca Va.goes hv.1,Zo⟩
theorem Mw(hc:Core c σ a.tmps w M ν){f:FuncId}{first caps:Array Operand}(ho:o.op= .makeFunc (.func f) first caps){K:jb α}
  (h:cond first.isEmpty (vY σ.H (caps.toList.map σ.ρ) λcs rd ups=>K (.Mf f cs) rd ups) none=some r) (hn:gd c σ a o w M ν K r next):o.wp P a w next Q:=by
 obtain⟨hf,h⟩:=cy h
 obtain⟨cs,rd,ups,M',hK,ht,hv⟩:=wk hc.mem (hc.evs _) h
 refine a7 (Dh ho (by simpa using hf)) (hn _ _ _ _ _ M' ν hK ht ?_)
 simp only[VR]
 exact⟨caps.toList.map a.eval,by congr 1;apply jo;simp,hv⟩
theorem P5(hE:EnvTy P E)(hc:Core c σ a.tmps w M ν){s d:TypeId}{x:Operand}(ho:o.op= .convert s d x){K:jb α}{τ:Ty}{k:IntKind}(hs:E.ty s=some τ)(hd:E.ty d=some (.int k))
  (h:vV (σ.ρ x) (λ_ n=>K (.val (.int k) (W k n)) [] [])=some r) (hn:gd c σ a o w M ν K r next):o.wp P a w next Q:=by
 obtain⟨k',n,hx,h⟩:=m6 h
 have hv:=hc.ev x
 rw[hx]at hv
 refine a7 (EL ho (hE.ty s τ hs).isSome (hE.ty d _ hd).int hv.int) (hn _ _ _ _ _ M ν h (.refl hc.mem) ?_)
 rw[ED];exact .mkInt k _
end VM
end
section
namespace VM
open Go
variable{P:Program}{E:Env}{o:Oper}{a:Act}{w:World}{M:Nat→Prop}{ν:Nat→Value}{σ:St}{c:Ctx}{α:Type}{r:α}{next:Act→World→Prop}{Q:Exit→Act→World→Prop}
theorem S9{b:BinOp}{k k':IntKind}{x y:Int}{t:TypeId}{K:bD→Option α}(h:Zd b k x y K=some r):
  ∃z,K (.val (.int k) z)=some r∧(binOp b t (.int k x) (.int k' y)).run P w= .ok (.int k z) w:=by
 unfold Zd at h
 split at h
 ·obtain⟨h0,h⟩:=my h
  rw[tZ]at h0
  have h0: ¬y<0:=by simpa using h0
  refine⟨_,h,?_⟩
  rw[ED,Vn]
  simp[binOp,Op.shift,h0]
 ·obtain⟨h0,h⟩:=my h
  rw[tZ]at h0
  have h0: ¬y<0:=by simpa using h0
  refine⟨_,h,?_⟩
  rw[PY]
  simp[binOp,Op.shift,h0]
 ·cases h
theorem JY{b:BinOp}{k:IntKind}{x y:Int}{t:TypeId}{K:bD→Option α}(h:ub b k x y K=some r):
  ∃v u,K v=some r∧(binOp b t (.int k x) (.int k y)).run P w= .ok u w∧ ∀H,VR w M H ν v u:=by
 unfold ub at h
 split at h
 ·exact⟨_,_,h,by simp[binOp,Op.intArith,ED],λH=> .mkInt _ _⟩
 ·exact⟨_,_,h,by simp[binOp,Op.intArith,ED],λH=> .mkInt _ _⟩
 ·exact⟨_,_,h,by simp[binOp,Op.intArith,ED],λH=> .mkInt _ _⟩
 ·obtain⟨h0,h⟩:=my h
  rw[jx]at h0
  have h0: ¬y=0:=by simpa using h0
  exact⟨_,_,h,by simp[binOp,Op.intDiv,ED,agK,h0],λH=> .mkInt _ _⟩
 ·obtain⟨h0,h⟩:=my h
  rw[jx]at h0
  have h0: ¬y=0:=by simpa using h0
  exact⟨_,_,h,by simp[binOp,Op.intDiv,agL,h0],λH=> .mkInt _ _⟩
 ·exact⟨_,_,h,by simp[binOp,Op.intBits,ua],λH=> .mkInt _ _⟩
 ·exact⟨_,_,h,by simp[binOp,Op.intBits,ua],λH=> .mkInt _ _⟩
 ·exact⟨_,_,h,by simp[binOp,Op.intBits,ua],λH=> .mkInt _ _⟩
 ·exact⟨_,_,h,by simp[binOp,Op.intBits,ua],λH=> .mkInt _ _⟩
 ·exact⟨_,.bool (decide (x=y)),h,by simp[binOp,Op.intCmp];rfl,λH=>by rw[jx];exact .ue _⟩
 ·exact⟨_,.bool (!decide (x=y)),h,by simp[binOp,Op.intCmp];rfl,λH=>by rw[jx];exact .ue _⟩
 ·exact⟨_,_,h,by simp[binOp,Op.intCmp,tZ],λH=> .ue _⟩
 ·exact⟨_,_,h,by simp[binOp,Op.intCmp,nY],λH=> .ue _⟩
 ·exact⟨_,_,h,by simp[binOp,Op.intCmp,tZ],λH=> .ue _⟩
 ·exact⟨_,_,h,by simp[binOp,Op.intCmp,nY],λH=> .ue _⟩
 ·cases h
theorem Ta{t:Option Ty}{op:BinOp}{τ:Ty}{x:τ.den}{υ:Ty}{y:υ.den}{K:bD→Option α}(h:EG t op τ x υ y K=some r):
  (∃(k k':IntKind) (m n:Int),bD.val τ x= .val (.int k) m∧bD.val υ y= .val (.int k') n∧(cond (Ze op) (Zd op k m n K) (if k=k' then ub op k m n K else none))=some r)∨
  (∃z:τ.den,bD.val υ y= .val τ z∧t=some τ∧τ.comparable=true∧((op= .eql∧K (.val .bool (ql τ x z))=some r)∨(op= .neq∧K (.val .bool (!ql τ x z))=some r))):=by
 unfold EG at h
 split at h
 ·exact .inl ⟨_,_,_,_,rfl,rfl,h⟩
 ·right
  split at h
  ·cases h
  ·obtain⟨e,h1⟩:=fZ h
   clear h
   subst e
   obtain⟨hc,h⟩:=cy h1
   clear h1
   split at h
   ·obtain⟨e,h1⟩:=bC h
    subst e
    exact⟨_,rfl,rfl,hc,.inl ⟨rfl,h1⟩⟩
   ·obtain⟨e,h1⟩:=bC h
    subst e
    exact⟨_,rfl,rfl,hc,.inr ⟨rfl,h1⟩⟩
   ·cases h
theorem Co{t:TypeId}(hu:P.underlying t=some .bool)(x y:Bool)(w:World):(Op.equal t (.bool x) (.bool y)).run P w= .ok (x==y) w:=by
 unfold Op.equal
 obtain⟨n,hn⟩: ∃n,Op.maxDepth=n+1:=⟨9999,rfl⟩
 rw[hn]
 simp[Op.equalIn,run_underlying hu]
theorem run_eql_bool{t:TypeId}(hu:P.underlying t=some .bool)(x y:Bool):(binOp .eql t (.bool x) (.bool y)).run P w= .ok (.bool (x==y)) w:=by
 simp[binOp,Co hu]
theorem run_neq_bool{t:TypeId}(hu:P.underlying t=some .bool)(x y:Bool):(binOp .neq t (.bool x) (.bool y)).run P w= .ok (.bool (!(x==y))) w:=by
 simp[binOp,Co hu]
theorem alE(x y:ByteArray):(x.toList==y.toList)=decide (x.toList=y.toList):=by
 rw[oR];simp
theorem My{t:TypeId}(x y:ByteArray):(binOp .eql t (.string x) (.string y)).run P w= .ok (.bool (decide (x.toList=y.toList))) w:=by
 simp[binOp,Op.stringOp,alE]
theorem Mz{t:TypeId}(x y:ByteArray):(binOp .neq t (.string x) (.string y)).run P w= .ok (.bool (!decide (x.toList=y.toList))) w:=by
 simp[binOp,Op.stringOp,alE]
theorem VB(hE:EnvTy P E)(hc:Core c σ a.tmps w M ν){b:BinOp}{t t':TypeId}{x y:Operand}(ho:o.op= .binOp b t x y t'){K:jb α}
  (h:Mh (σ.ρ x) (fun τ x=>Mh (σ.ρ y) fun υ y=>EG (E.ty t) b τ x υ y λv=>K v [] [])=some r) (hn:gd c σ a o w M ν K r next):o.wp P a w next Q:=by
 have hx:=hc.ev x
 have hy:=hc.ev y
 unfold Mh at h
 split at h
 ·rename_i τ x' Zp
  split at h
  ·rename_i υ y' hye
   rw[Zp]at hx;rw[hye]at hy
   rcases Ta h with⟨k,k',m,n,e1,e2,h1⟩|⟨z,e2,ht,DT,h1⟩
   ·rw[e1]at hx;rw[e2]at hy
    have hx:=hx.int
    have hy:=hy.int
    cases hs:Ze b
    ·rw[hs]at h1
     replace h1:(if k=k' then ub b k m n (λv=>K v [] [])else none)=some r:=h1
     split at h1
     ·rename_i hk;subst hk
      obtain⟨v,u,hK,dE,hVR⟩:=JY (P:=P) (w:=w) (M:=M) (ν:=ν) (t:=t) h1
      exact a7 (pZ ho (by rw[hx,hy];exact pv w) (by rw[hx,hy];exact dE)) (hn _ [] [] _ _ _ _ hK (.refl hc.mem) (hVR _))
     ·cases h1
    ·rw[hs]at h1
     replace h1:Zd b k m n (λv=>K v [] [])=some r:=h1
     obtain⟨z,hK,dE⟩:=S9 (P:=P) (w:=w) (k':=k') (t:=t) h1
     exact a7 (pZ ho (by rw[hx,hy];exact pv w) (by rw[hx,hy];exact dE)) (hn _ [] [] _ _ _ _ hK (.refl hc.mem) (.mkInt _ _))
   ·rw[e2]at hy
    have key:(eqGuard b t x y (a.eval x) (a.eval y)).run P w= .ok () w∧(binOp .eql t (a.eval x) (a.eval y)).run P w= .ok (.bool (ql τ x' z)) w∧(binOp .neq t (a.eval x) (a.eval y)).run P w= .ok (.bool (!ql τ x' z)) w:=by
     by_cases Mp:τ.isAgg=true
     ·simp only[VR]at hx hy
      exact hE.eq t τ ht DT Mp w M _ _ _ _ b x y hx hy
     ·have hl:=hE.ty t τ ht
      cases τ with
      |int k=>
       rw[hx.int,hy.int]
       refine⟨pv w,?_,?_⟩
       ·simp[binOp,Op.intCmp,ql,jx];rfl
       ·simp[binOp,Op.intCmp,ql,jx];rfl
      |bool=>rw[hx.bool,hy.bool];exact⟨Bm w,run_eql_bool hl.bool _ _,run_neq_bool hl.bool _ _⟩
      |str=>rw[hx.str,hy.str];exact⟨Di w,by rw[My];simp[ql,EF],by rw[Mz];simp[ql,EF]⟩
      |slice e=>simp[Ty.comparable]at DT
      |unit=>simp[Ty.isAgg]at Mp
      |pair _ _=>simp[Ty.isAgg]at Mp
      |arr _ _=>simp[Ty.isAgg]at Mp
    obtain⟨hg,h2,h3⟩:=key
    rcases h1 with⟨rfl,hK⟩|⟨rfl,hK⟩
    ·exact a7 (pZ ho hg h2) (hn _ [] [] _ _ _ _ hK (.refl hc.mem) (.ue _))
    ·exact a7 (pZ ho hg h3) (hn _ [] [] _ _ _ _ hK (.refl hc.mem) (.ue _))
  ·cases h
 ·cases h
theorem Zq(hc:Core c σ a.tmps w M ν){u:UnOp}{t:TypeId}{x:Operand}(ho:o.op= .unOp u t x){K:jb α}
  (h:SX u (σ.ρ x) (λv=>K v [] [])=some r) (hn:gd c σ a o w M ν K r next):o.wp P a w next Q:=by
 have hx:=hc.ev x
 unfold SX at h
 split at h
 ·rename_i k n Zp
  rw[Zp]at hx
  refine a7 (wh ho (v:= .int k (k.wrap (0-n))) ?_) (hn _ [] [] _ _ _ _ h (.refl hc.mem) (by rw[ED];exact .mkInt _ _))
  rw[hx.int];simp[Op.unary,Op.intArith]
 ·rename_i k n Zp
  rw[Zp]at hx
  refine a7 (wh ho (v:= .int k (qL .xor k (if k.signed then-1 else k.max) n)) ?_) (hn _ [] [] _ _ _ _ h (.refl hc.mem) (.mkInt _ _))
  rw[hx.int,ua];simp[Op.unary,Op.intBits]
 ·rename_i b Zp
  rw[Zp]at hx
  refine a7 (wh ho (v:= .bool (!b)) ?_) (hn _ [] [] _ _ _ _ h (.refl hc.mem) (.ue _))
  rw[hx.bool];simp[Op.unary]
 ·cases h
end VM
end
section
namespace VM
open Go
variable{P:Program}{E:Env}{o:Oper}{a:Act}{w:World}{M:Nat→Prop}{ν:Nat→Value}{σ:St}{c:Ctx}{α:Type}{r:α}{next:Act→World→Prop}{Q:Exit→Act→World→Prop}
theorem n7{args:Array Operand}{ts:Array TypeId}{t:TypeId}{x:Operand}{n:Nat}(ho:o.op= .call {callee:= .builtin .len,args,argTypes:=ts})(ha:args.toList=[x])(_ht:ts.toList.head?=some t)
  (hl: ∀ty,(Builtin.len_ ts ty #[a.eval x]).run P w= .ok (goInt n) w):(execOp a.eval o).run P w= .ok (.value (.int .i64 n)) w:=by
 obtain⟨cs,hr⟩:=qR (P:=P) (ρ:=a.eval) ho (w:=w)
 rw[hr]
 have:args.map a.eval= #[a.eval x]:=by apply jo;simp[ha]
 rw[this]
 simp[builtin,hl,goInt]
theorem Zr{ts:Array TypeId}{t ty:TypeId}(ht:ts[0]? =some t)(hu:P.underlying t=some .string)(s:ByteArray):(Builtin.len_ ts ty #[.string s]).run P w= .ok (goInt s.size) w:=by
 simp[Builtin.len_,ht,run_underlying hu]
theorem Zs{ts:Array TypeId}{t ty e:TypeId}{n:Nat}(ht:ts[0]? =some t)(hu:P.underlying t=some (.array n e))(v:Value):(Builtin.len_ ts ty #[v]).run P w= .ok (goInt n) w:=by
 simp[Builtin.len_,ht,run_underlying hu]
theorem xt{ts:Array TypeId}{t ty e:TypeId}(ht:ts[0]? =some t)(hu:P.underlying t=some (.slice e))(ad:Option Addr)(n cp:Nat):(Builtin.len_ ts ty #[.slice ad n cp]).run P w= .ok (goInt n) w:=by
 simp[Builtin.len_,ht,run_underlying hu]
theorem ER.VC{e:Ty}{l:List e.den}{v:Value}(h:ER w M v (.own e l)): ∃ad cp,v= .slice ad l.length cp:=by
 simp only[ER]at h
 rcases h with⟨rfl,a,hv⟩|⟨b,cs,t,cap,hv,_⟩
 ·exact⟨a,0,hv⟩
 ·exact⟨_,cap,hv⟩
theorem ER.VE{e:Ty}{l:List e.den}{v:Value}(h:ER w M v (.oH e l)): ∃ad cp,v= .slice ad l.length cp:=by
 simp only[ER]at h
 have h:=h.1
 simp only[Rd,fh,eS]at h
 obtain⟨a,cap,hv,_⟩:=h
 exact⟨a,cap,hv⟩
theorem ag1(hE:EnvTy P E)(hc:Core c σ a.tmps w M ν){args:Array Operand}{ts:Array TypeId}{x:Operand}(ho:o.op= .call {callee:= .builtin .len,args,argTypes:=ts})(ha:args.toList=[x]){K:jb α}{τ:Ty}
  (ht:(ts.toList.head?).bind E.ty=some τ) (h:Mi τ (σ.ρ x) σ.H K=some r) (hn:gd c σ a o w M ν K r next):o.wp P a w next Q:=by
 obtain⟨t,vE,Va⟩:=s7.1 ht
 have Zt:ts[0]? =some t:=by rw[←vE,←gR,List.head?_eq_getElem?]
 have hl:=hE.ty t τ Va
 have hv:=hc.ev x
 unfold Mi at h
 split at h
 ·rename_i e e' l hx
  obtain⟨_,hu,_⟩:=hl.slice
  rw[hx]at hv
  simp only[VR]at hv
  have hv:=V.slice.1 hv
  simp only[Rd,fh,eS]at hv
  obtain⟨ad,cap,hv,_⟩:=hv
  refine a7 (n7 ho ha vE (n:=List.length l) λty=>by rw[hv];exact xt Zt hu _ _ _) (hn _ [] [] _ _ _ _ h (.refl hc.mem) (.mkInt _ _))
 ·rename_i n e n' e' l hx
  obtain⟨_,hu,_⟩:=hl.arr
  refine a7 (n7 ho ha vE (n:=n) λty=>Zs Zt hu _) (hn _ [] [] _ _ _ _ h (.refl hc.mem) (.mkInt _ _))
 ·rename_i s hx
  rw[hx]at hv
  refine a7 (n7 ho ha vE (n:=ByteArray.size s) λty=>by rw[hv.str];exact Zr Zt hl.str _) (hn _ [] [] _ _ _ _ h (.refl hc.mem) (.mkInt _ _))
 ·rename_i e hx
  obtain⟨_,hu,_⟩:=hl.slice
  rw[hx]at hv
  simp only[VR]at hv
  obtain⟨ad,hv⟩:=hv
  refine a7 (n7 ho ha vE (n:=0) λty=>by rw[hv];exact xt Zt hu _ _ _) (hn _ [] [] _ _ _ _ h (.refl hc.mem) (.mkInt _ _))
 ·rename_i e id hx
  obtain⟨_,hu,_⟩:=hl.slice
  rw[hx]at hv
  simp only[VR]at hv
  split at h
  ·rename_i e' l bf
   obtain⟨ad,cap,hh⟩:=(hc.mem.kZ id _ bf).VC
   refine a7 (n7 ho ha vE (n:=l.length) λty=>by rw[hv.2,hh];exact xt Zt hu _ _ _) (hn _ [id] [] _ _ _ _ h (.refl hc.mem) (.mkInt _ _))
  ·rename_i e' l bf
   obtain⟨ad,cap,hh⟩:=(hc.mem.kZ id _ bf).VE
   refine a7 (n7 ho ha vE (n:=l.length) λty=>by rw[hv.2,hh];exact xt Zt hu _ _ _) (hn _ [id] [] _ _ _ _ h (.refl hc.mem) (.mkInt _ _))
  ·cases h
 ·cases h
theorem MA{H:Nat→Option bg}(up:Bool): ∀(xs:List bD) (x:bD) (v:Value) (vs:List Value) (K:bD→Option α),VR w M H ν x v→jq w M H ν xs vs→YS up x xs K=some r→
  ∃x' v',K x'=some r∧(vs.foldlM (if up then Builtin.max2 else Builtin.min2) v).run P w= .ok v' w∧VR w M H ν x' v'
 |[],x,v,[],K,hx,_,h=>⟨x,v,h,by simp,hx⟩
 |[],_,_,_::_,_,_,hs,_=>by simp[jq]at hs
 |_::_,_,_,[],_,_,hs,_=>by simp[jq]at hs
 |y::xs,x,v,u::vs,K,hx,hs,h=>by
  simp only[jq]at hs
  obtain⟨hy,hs⟩:=hs
  unfold YS at h
  obtain⟨k,m,e1,h1⟩:=m6 h
  obtain⟨k',n,e2,h2⟩:=m6 h1
  clear h h1
  split at h2
  ·rename_i hk
   subst hk
   rw[e1]at hx;rw[e2]at hy
   have hx:=hx.int
   have hy:=hy.int
   obtain⟨x',v',hK,dE,hV⟩:=MA up xs _ (.int k (cond up (mx m n) (mn m n))) vs K (.mkInt _ _) hs h2
   refine⟨x',v',hK,?_,hV⟩
   rw[List.foldlM_cons,Sem.run_bind]
   have:((if up then Builtin.max2 else Builtin.min2) v u).run P w= .ok (.int k (cond up (mx m n) (mn m n))) w:=by
    rw[hx,hy]
    cases up
    ·simp[Builtin.min2,Rs]
    ·simp[Builtin.max2,Vo]
   rw[this]
   exact dE
  ·cases h2
theorem afM(hc:Core c σ a.tmps w M ν)(up:Bool){args:Array Operand}{ts:Array TypeId}{x:Operand}{xs:List Operand}(ho:o.op= .call {callee:= .builtin (if up then .max else .min),args,argTypes:=ts})(ha:args.toList=x::xs){K:jb α}
  (h:YS up (σ.ρ x) (xs.map σ.ρ) (λv=>K v [] [])=some r) (hn:gd c σ a o w M ν K r next):o.wp P a w next Q:=by
 obtain⟨x',v',hK,dE,hV⟩:=MA (P:=P) up (xs.map σ.ρ) (σ.ρ x) (a.eval x) (xs.map a.eval) _ (hc.ev x) (hc.evs xs) h
 refine a7 ?_ (hn _ [] [] _ _ _ _ hK (.refl hc.mem) hV)
 obtain⟨cs,hr⟩:=qR (P:=P) (ρ:=a.eval) ho (w:=w)
 rw[hr]
 have hm:(args.map a.eval).toList=a.eval x::xs.map a.eval:=by simp[ha]
 cases up
 ·simp only[iY,eT,builtin,Builtin.min_,hm,Sem.run_bind]at dE ⊢
  rw[dE];simp
 ·simp only[gB,builtin,Builtin.max_,hm,Sem.run_bind]at dE ⊢
  rw[dE];simp
theorem Hn{ρ:Operand→Value}{t:TypeId}{x i:Operand}(ho:o.op= .index t x i){k:IntKind}{n:Int}{s:ByteArray}
  (hu:P.underlying t=some .string) (hx:ρ x= .string s) (hi:ρ i= .int k n) (h0:0≤n) (h1:n<(s.size:Int)):
  (execOp ρ o).run P w= .ok (.value (.int .u8 ((s.data.getD n.toNat 0).toNat:Int))) w:=by
 have e9:n.toNat<s.size:=ω
 have hs:s[n.toNat]? =some (s[n.toNat]'e9):=by simp[e9]
 have he:s[n.toNat]'e9=s.data.getD n.toNat 0:=by
  have wm:n.toNat<s.data.size:=e9
  rw[Array.getD,dif_pos wm];rfl
 simp[execOp,ho,hx,hi,Instr.index,asIntOf,run_underlying hu,h0,hs,he]
theorem VF(hE:EnvTy P E)(hc:Core c σ a.tmps w M ν){t:TypeId}{x i:Operand}(ho:o.op= .index t x i){K:jb α}{τ:Ty}(ht:E.ty t=some τ)
  (h:vZ τ (σ.ρ x) (σ.ρ i) (λv=>K v [] [])=some r) (hn:gd c σ a o w M ν K r next):o.wp P a w next Q:=by
 unfold vZ at h
 obtain⟨k,n,hi,h2⟩:=m6 h
 clear h
 have h:=h2
 clear h2
 have Ry:=hc.ev i
 rw[hi]at Ry
 have Ry:=Ry.int
 have hv:=hc.ev x
 have zW:=hE.ty t τ ht
 split at h
 ·rename_i len e υ l hx
  obtain⟨e',PL,hle⟩:=zW.arr
  obtain⟨e1,h⟩:=bC h
  subst e1
  obtain⟨lT,h⟩:=cy h
  obtain⟨h0,h1⟩:=ug lT
  rw[hx]at hv
  simp only[VR]at hv
  obtain⟨cs,hu,hr⟩:=hv.agg rfl
  have eM:=hr.idx (i:=n.toNat) ω
  refine a7 (Hk ho PL hle hu Ry h0 h1 eM) (hn _ [] [] _ _ _ _ h (.refl hc.mem) ?_)
  simp only[VR]
  exact V.cK eM
 ·rename_i s hx
  obtain⟨lT,h⟩:=cy h
  obtain⟨h0,h1⟩:=ug lT
  rw[hx]at hv
  refine a7 (Hn ho zW.str hv.str Ry h0 h1) (hn _ [] [] _ _ _ _ h (.refl hc.mem) (.mkInt _ _))
 ·cases h
theorem oJ(τ:Ty):τ.di.length=τ.size:=(Rd.zero default (λ_=>False) τ).length
theorem Dm{z:Array Value}{n i s:Nat}(hz:z.size=s)(hi:i*s+s≤n):((madeCells z n).toList.drop (i*s)).take s=z.toList:=by
 apply zw
 intro j
 rw[lO]
 split
 ·rename_i hj
  rw[lP,gR,gR]
  simp only[madeCells,Array.getElem?_map]
  rw[Array.getElem?_range,aj ω]
  simp only[Option.map_some]
  have:(i*s+j)%z.size=j:=by rw[hz,EA,Nat.mul_add_mod,Nat.mod_eq_of_lt hj]
  rw[this,LW ω,getElem!_pos z j ω]
 ·rename_i hj
  rw[gR,L1 ω]
theorem qS.made(w:World)(M:Nat→Prop)(e:Ty){n l:Nat}(h:l*e.size≤n):qS w M e (madeCells (cK e e.di).cells n).toList (List.replicate l e.zero):=by
 intro i hi
 rw[cR]at hi
 have:=ew (s:=e.size) hi
 rw[Dm (by rw[←bH,gT,oJ]) ω,gT,L4]
 exact Rd.zero w M e
theorem Bq{ρ:Operand→Value}{t:TypeId}{x y:Operand}(ho:o.op= .makeSlice t x y){v:Value}{w':World}(h:(Instr.makeSlice t (ρ x) (ρ y)).run P w= .ok v w'):(execOp ρ o).run P w= .ok (.value v) w':=by
 simp[execOp,ho,h]
theorem JZ(hE:EnvTy P E)(hc:Core c σ a.tmps w M ν){t:TypeId}{x y:Operand}(ho:o.op= .makeSlice t x y){K:jb α}{e:Ty}(ht:E.ty t=some (.slice e)){id:Nat}
  (h:vV (σ.ρ x) (λ_ l=>vV (σ.ρ y) λ_ c=>cond (jX l c)
   (qN σ.H id (.own e []) (K (.ref id) [id] [(id,some (.own e (List.replicate l.toNat e.zero)))])) none)=some r) (hn:gd c σ a o w M ν K r next):o.wp P a w next Q:=by
 obtain⟨k,l,hx,h1⟩:=m6 h
 obtain⟨k',n,hy,h2⟩:=m6 h1
 clear h h1
 obtain⟨hk,h⟩:=cy h2
 obtain⟨bf,h⟩:=ln h
 rw[H4]at hk
 obtain⟨h0,h1,h3⟩:=bz hk
 simp only[zK]at h3
 obtain⟨e',hu,hle⟩:=(hE.ty t _ ht).slice
 obtain⟨i,hi,hs,hz,hb⟩:=hle.base
 have J0:=hc.ev x
 have Dj:=hc.ev y
 rw[hx]at J0;rw[hy]at Dj
 have ag2:(i.bytes:Int)*n≤281474976710656:=by
  have h4:(i.bytes:Int)≤2048:=ω
  have:(i.bytes:Int)*n≤2048*n:=zk h4 ω
  omega
 have dE:=run_make (P:=P) w t e' i _ hu hi hz k k' l n h0 h1 ag2 ω
 have hlen:(List.replicate l.toNat e.zero).length=l.toNat:=cR
 have il:=Tr.row hc.mem bf e' (e:=e) (cs:=madeCells (cK e e.di).cells (n.toNat*i.size)) (l:=List.replicate l.toNat e.zero) (cap:=n.toNat) (by rw[hlen];omega) (by simp[maxLen];omega)
  (by rw[size_madeCells,hs]) (qS.made w M e (vQ ω ω))
 refine a7 (Bq ho (by rw[J0.int,Dj.int];exact dE)) (hn _ _ _ _ _ _ _ h il ?_)
 simp only[VR]
 exact⟨by show bZ σ.H id _ id≠none;rw[ax];simp,by simp[dg]⟩
end VM
end
