/- A part of the proof of TearFlat of layer 29: a machine that reads a function of the program as an equation between values. -/
import Derived.Test.YtocmlaipoebfeaaGreatVm1
set_option linter.all false
section
namespace VM
open Go
variable{P:Program}{E:Env}{o:Oper}{a:Act}{w:World}{M:Nat→Prop}{ν:Nat→Value}{σ:St}{c:Ctx}{α:Type}{r:α}{next:Act→World→Prop}{Q:Exit→Act→World→Prop}
theorem a6{v:Value}{w':World}(h:(execOp a.eval o).run P w= .ok (.value v) w')(hn:next (a.put o.dst v) w'):o.wp P a w next Q:=by
 unfold Oper.wp Oper.upon;rw[h];exact hn
theorem q6{w':World}(h:(execOp a.eval o).run P w= .ok .skip w')(hn:next (a.put o.dst undef) w'):o.wp P a w next Q:=by
 unfold Oper.wp Oper.upon;rw[h];exact hn
def gi(c:Ctx)(σ:St)(a:Act)(o:Oper)(w:World)(M:Nat→Prop)(ν:Nat→Value)(K:jf α)(r:α)(next:Act→World→Prop):Prop:=
 ∀v rd ups v' w' M' ν',K v rd ups=some r→Tr c σ.H w M ν (cY σ.H ups) w' M' ν'→VR w' M' (cY σ.H ups) ν' v v'→next (a.put o.dst v') w'
theorem Core.ev(h:Core c σ a.tmps w M ν)(x:Operand):VR w M σ.H ν (σ.ρ x) (a.eval x):=h.op a.defers x
theorem nA{x:bD}{k:IntKind→Int→Option α}(h:wy x k=some r): ∃(i:IntKind) (n:Int),x= .val (.int i) n∧k i n=some r:=by
 unfold wy at h
 split at h
 ·exact⟨_,_,rfl,h⟩
 ·cases h
theorem VR.int{H:Nat→Option bh}{k:IntKind}{n:Int}{v:Value}(h:VR w M H ν (.val (.int k) n) v):v= .int k n:=by
 simp only[VR,V,Ty.isAgg,jd,fa,Rd,fv,ec]at h;exact h
theorem VR.bool{H:Nat→Option bh}{b:Bool}{v:Value}(h:VR w M H ν (.val .bool b) v):v= .bool b:=by
 simp only[VR,V,Ty.isAgg,jd,fa,Rd,fv,ec]at h;exact h
theorem VR.str{H:Nat→Option bh}{b:ByteArray}{v:Value}(h:VR w M H ν (.val .str b) v):v= .string b:=by
 simp only[VR,V,Ty.isAgg,jd,fa,Rd,fv,ec]at h;exact h
theorem VR.mkInt{H:Nat→Option bh}(k:IntKind)(n:Int):VR w M H ν (.val (.int k) n) (.int k n):=by simp[VR,V,Ty.isAgg,Rd]
theorem VR.uS{H:Nat→Option bh}(b:Bool):VR w M H ν (.val .bool b) (.bool b):=by simp[VR,V,Ty.isAgg,Rd]
theorem VR.mkStr{H:Nat→Option bh}(b:ByteArray):VR w M H ν (.val .str b) (.string b):=by simp[VR,V,Ty.isAgg,Rd]
theorem Rx(hc:Core c σ a.tmps w M ν){x:Operand}(ho:o.op= .move x∨o.op= .assign x){K:jf α}(h:K (σ.ρ x) [] []=some r)(hn:gi c σ a o w M ν K r next):o.wp P a w next Q:=by
 have hr:(execOp a.eval o).run P w= .ok (.value (a.eval x)) w:=by
  rcases ho with ho|ho
  ·simp[execOp,ho]
  ·simp[execOp,ho]
 exact a6 hr (hn _ _ _ _ _ _ _ h (.refl hc.mem) (hc.ev x))
theorem Y9(hc:Core c σ a.tmps w M ν){x y z:Operand}(ho:o.op= .pick x y z){K:jf α}{t:Bool}(hx:σ.ρ x= .val .bool t)(h:cond t (K (σ.ρ y) [] []) (K (σ.ρ z) [] [])=some r)
  (hn:gi c σ a o w M ν K r next):o.wp P a w next Q:=by
 have hv:=hc.ev x
 rw[hx]at hv
 refine a6 (L7 ho hv.bool) ?_
 cases t
 ·exact hn _ _ _ _ _ _ _ h (.refl hc.mem) (hc.ev z)
 ·exact hn _ _ _ _ _ _ _ h (.refl hc.mem) (hc.ev y)
theorem lL{H:Nat→Option bh}{id:Nat}{e:bh}{K:Option α}(h:qX H id e K=some r):H id=none∧K=some r:=by
 unfold qX at h
 split at h
 ·rename_i h';exact⟨h',h⟩
 ·cases h
theorem VR.afA{H:Nat→Option bh}{id:Nat}{τ:Ty}{x:τ.den}{b:Nat}(bm:H id=some (.obj τ x))(hν:ν id= .pointer (some ⟨b,0,none⟩)):VR w M H ν (.jr id []) (.pointer (some ⟨b,0,none⟩)):=by
 simp only[VR]
 exact⟨_,bm,trivial,b,hν,rfl⟩
theorem VR.Vf{H:Nat→Option bh}{id:Nat}{τ:Ty}{x:τ.den}{q:List Step}{j b:Nat}(bm:H id=some (.gk τ x q j))(hν:ν id= .pointer (some ⟨b,0,none⟩)):VR w M H ν (.jr id []) (.pointer (some ⟨b,0,none⟩)):=by
 simp only[VR]
 exact⟨_,bm,trivial,b,hν,rfl⟩
theorem g5(τ:Ty):(cI τ τ.dr).cells.toList=τ.dr:=Hn (Rd.zero default (λ_=>False) τ)
theorem L8: ∀{τ:Ty} {n:Nat} {a:Ty},Jz τ n=some a→ ∃l m,τ.dr=l++(a.dr++m)∧l.length=sf τ n:=by
 intro τ
 induction τ with
 |pair a b _ Ve=>
  intro n c h
  cases n with
  |zero=>cases h;exact⟨[],b.dr,rfl,rfl⟩
  |succ n=>
   obtain⟨l,m,h1,h2⟩:=Ve (n:=n) (a:=c) h
   refine⟨a.dr++l,m,by simp only[Ty.dr];rw[h1,bM],?_⟩
   rw[aT,h2,(Rd.zero default (λ_=>False) a).length];rfl
 |_=>intro n c h;simp[Jz]at h
theorem zU: ∀{p:List Step} {τ υ:Ty},gW p τ υ=true→ ∃l m,τ.dr=l++(υ.dr++m)∧l.length=cC p τ
 |[],τ,υ,h=>by
  have h:=bF h
  subst h
  exact⟨[],[],by simp,rfl⟩
 | .kH n::p,τ,υ,h=>by
  unfold gW at h
  split at h
  ·rename_i a ha
   obtain⟨l,m,h1,h2⟩:=L8 ha
   obtain⟨l',m',h3,h4⟩:=zU h
   obtain⟨_,_,hf⟩:=tQ ha τ.zero
   have:=hf.eq.1
   subst this
   refine⟨l++l',m'++m,by rw[h1,h3];simp,?_⟩
   rw[aT,h2,h4];rfl
  ·cases h
 | .idx _::_,_,_,h=>by simp[gW]at h
theorem Ia{p:List Step}{τ e:Ty}(h:gW p τ (.slice e)=true):τ.dr[cC p τ]? =some (.slice none 0 0):=by
 obtain⟨l,m,h1,h2⟩:=zU h
 rw[h1,oP ω,h2,tL];rfl
theorem cB{b:Bool}{K:Option α}(h:cond b K none=some r):b=true∧K=some r:=by
 cases b
 ·cases h
 ·exact⟨rfl,h⟩
theorem Ry{τ:Ty}{q:List Step}{e:Ty}(h:lkT E τ=some (q,e)):gW q τ (.slice e)=true:=by
 unfold lkT at h
 split at h
 ·rename_i υ q' e' _ _
  cases hd:decide (υ=τ)<;>rw[hd]at h
  ·cases h
  ·simp only[ak]at h
   cases hp:gW q' τ (.slice e')<;>rw[hp]at h
   ·cases h
   ·cases h;exact hp
 ·cases h
theorem tY{τ:Ty}{id:Nat}{q:List Step}{e:Ty}(h:JB E τ id=some (q,e)):gW q τ (.slice e)=true:=by
 unfold JB at h
 split at h
 ·exact Ry (cB h).2
 ·cases h
theorem EY{H:Nat→Option bh}{id:Nat}{τ:Ty}{x:τ.den}{q:List Step}{e:Ty}{K:jf α}(h:Dg H id τ x q e K=some r):H id=none∧H (id+1)=none∧K (.jr id []) [id,id+1] [(id,some (.gk τ x q (id+1))),(id+1,some (.own e []))]=some r:=by
 unfold Dg at h
 obtain⟨h1,h⟩:=lL h
 obtain⟨h2,h⟩:=lL h
 exact⟨h1,h2,h⟩
theorem SW{H:Nat→Option bh}{i j:Nat}{u v:Option bh}(h:i≠j):bT (bT H i u) j v=bT (bT H j v) i u:=by
 funext k
 by_cases hi:k=i
 ·subst hi;rw[az _ _ h,ay,ay]
 ·by_cases hj:k=j
  ·subst hj;rw[ay,az _ _ hi,ay]
  ·rw[az _ _ hj,az _ _ hi,az _ _ hi,az _ _ hj]
theorem yI{H:Nat→Option bh}{i:Nat}{u v:Option bh}:bT (bT H i u) i v=bT H i v:=by
 funext k
 by_cases hi:k=i
 ·subst hi;rw[ay,ay]
 ·rw[az _ _ hi,az _ _ hi,az _ _ hi]
theorem Tr.Vg{H:Nat→Option bh}(h:Mem c H w M ν){id k:Nat}(hk:H k=none){τ:Ty}{x:τ.den}(bm:H id=some (.obj τ x)){b:Nat}{cs:Array Value}{t:TypeId}(hb:ν id= .pointer (some ⟨b,0,none⟩))(hg:w.heap[b]? =some (.cells cs t (0,0)))
  {q:List Step} {e:Ty} (hq:gW q τ (.slice e)=true) {ad:Option Addr} (hz:cs.toList[cC q τ]? =some (.slice ad 0 0)):
  Tr c H w M ν (cY H [(id,some (.gk τ x q k)),(k,some (.own e []))]) w M (dp ν k (.slice ad 0 0)):=by
 have iI:k≠id:=λe=>by rw[e,bm]at hk;cases hk
 have h2:=Tr.nothing h hk e ad
 have hd2:bT H k (some (.own e [])) id=some (.obj τ x):=by rw[az _ _ (eU iI)];exact bm
 have hν:dp ν k (.slice ad 0 0) id= .pointer (some ⟨b,0,none⟩):=by unfold dp;rw[ah (eU iI)];exact hb
 have hν1:dp ν k (.slice ad 0 0) k= .slice ad 0 0:=by simp[dp]
 have he:=h2.mem.ln id _ hd2
 simp only[ER]at he
 obtain⟨b',cs',t',ff,hg',hM,lh⟩:=he
 rw[hν]at ff;cases ff
 rw[hg]at hg';cases hg'
 have h3:=Tr.Hr h2.mem hd2 trivial (e':= .gk τ x q k) trivial rfl (λ_ _=>by simp) (by
   rw[hν];simp only[ER]
   exact⟨_,cs,t,cs.toList,.slice ad 0 0,rfl,hg,hM,lh,(L1 hz).symm,rfl,e,hq⟩)
  (fun τ' x' p' j' hl=>by
   cases hl
   refine⟨by rw[ay];simp,_,hν,?_⟩
   rw[hν1,cell_of hg,←gY];exact hz)
 rw[SW (i:=k) (j:=id) iI]at h3
 exact h2.trans h3
theorem Tr.Dg{H:Nat→Option bh}(h:Mem c H w M ν){id:Nat}(bm:H id=none)(pI:H (id+1)=none)(t:TypeId){τ:Ty}{cs:Array Value}{x:τ.den}(hr:Rd w M τ cs.toList x){q:List Step}{e:Ty}(hq:gW q τ (.slice e)=true){ad:Option Addr}
  (hz:cs.toList[cC q τ]? =some (.slice ad 0 0)):
  ∃M' ν',Tr c H w M ν (cY H [(id,some (.gk τ x q (id+1))),(id+1,some (.own e []))]) (w.alloc (.cells cs t)) M' ν'∧ν' id= .pointer (some ⟨w.heap.size,0,none⟩):=by
 have h1:=Tr.var h bm t hr
 have h2:=Tr.Vg h1.mem (id:=id) (k:=id+1) (by rw[az _ _ ω];exact pI) (ay _ _ _) (by simp[dp]) (ET w _) hq hz
 have e1:cY (bT H id (some (.obj τ x))) [(id,some (.gk τ x q (id+1))),(id+1,some (.own e []))]=cY H [(id,some (.gk τ x q (id+1))),(id+1,some (.own e []))]:=by
  show bT (bT (bT H id _) id _) (id+1) _=bT (bT H id _) (id+1) _
  rw[yI]
 rw[e1]at h2
 exact⟨_,_,h1.trans h2,by simp[dp]⟩
theorem Vh(hE:EnvTy P E)(hc:Core c σ a.tmps w M ν){t:TypeId}(ho:o.op= .alloc t){K:jf α}{τ:Ty}(ht:E.ty t=some τ){id:Nat}
  (h:(match JB E τ id with
   |some (q,e)=>Dg σ.H id τ τ.zero q e K
   |none=>qX σ.H id (.obj τ τ.zero) (K (.jr id []) [id] [(id,some (.obj τ τ.zero))]))=some r) (hn:gi c σ a o w M ν K r next):o.wp P a w next Q:=by
 obtain⟨i,hi,hs,hz,_⟩:=(hE.ty t τ ht).base
 have hr:Rd w M τ (cI τ τ.dr).cells.toList τ.zero:=by rw[g5];exact Rd.zero w M τ
 split at h
 ·rename_i q e s9
  obtain⟨bm,pI,h⟩:=EY h
  obtain⟨M',ν',ix,hν⟩:=Tr.Dg hc.mem bm pI t hr (tY s9) (by rw[g5];exact Ia (tY s9))
  refine a6 (zS ho hi hz w) (hn _ _ _ _ _ M' ν' h ix ?_)
  exact VR.Vf (by show bT _ (id+1) _ id=_;rw[az _ _ ω,ay]) hν
 ·obtain⟨bm,h⟩:=lL h
  refine a6 (zS ho hi hz w) (hn _ _ _ _ _ _ _ h (Tr.var hc.mem bm t hr) (VR.afA (ay _ _ _) (by simp[dp])))
theorem Rz(hE:EnvTy P E)(hc:Core c σ a.tmps w M ν){t:TypeId}{x:Operand}(ho:o.op= .box t x){K:jf α}{τ:Ty}{id:Nat}
  (h:mu true (σ.ρ x) σ.H τ (λy rd ups=>qX σ.H id (.obj τ y) (K (.jr id []) (id::rd) (ups++[(id,some (.obj τ y))])))=some r) (hn:gi c σ a o w M ν K r next):o.wp P a w next Q:=by
 obtain⟨y,rd,ups,M',h,ix,hV,hz,_⟩:=ov (.refl _) hc.mem (hc.ev x) h
 obtain⟨bm,h⟩:=lL h
 have agT:cY σ.H ups id=none:=hz.none bm
 have wI:=ix.trans (Tr.var ix.mem agT t hV.cells)
 refine a6 (EU ho w) (hn _ _ _ _ _ (λb=>M' b∨b=w.heap.size) (dp ν id (.pointer (some ⟨w.heap.size,0,none⟩))) h ?_ ?_)
 ·rw[gw];exact wI
 ·rw[gw];exact VR.afA (ay _ _ _) (by simp[dp])
theorem agU(hE:EnvTy P E)(hc:Core c σ a.tmps w M ν){t:TypeId}{x:Operand}(ho:o.op= .box t x){K:jf α}{τ:Ty}{id:Nat}
  (h:(match JB E τ id,σ.ρ x with
   |some ([.kH m],e),.JA υ y n=>cond (Nat.beq m n) (c8 υ τ y λy=>Dg σ.H id τ y [.kH m] e K) (mu true (σ.ρ x) σ.H τ (λy rd ups=>qX σ.H id (.obj τ y) (K (.jr id []) (id::rd) (ups++[(id,some (.obj τ y))]))))
   |_,_=>mu true (σ.ρ x) σ.H τ (λy rd ups=>qX σ.H id (.obj τ y) (K (.jr id []) (id::rd) (ups++[(id,some (.obj τ y))]))))=some r) (hn:gi c σ a o w M ν K r next):o.wp P a w next Q:=by
 split at h
 ·rename_i m e υ y n s9 hx
  cases hb:Nat.beq m n
  ·rw[hb]at h
   exact Rz hE hc ho h hn
  ·rw[hb]at h
   have EZ:=fV hb
   subst EZ
   simp only[ak]at h
   obtain⟨e1,h⟩:=bC h
   subst e1
   obtain⟨bm,pI,h⟩:=EY h
   have hv:=hc.ev x
   rw[hx]at hv
   simp only[VR]at hv
   obtain⟨hV,cs,ad,hva,hz⟩:=hv
   have JK:(a.eval x).cells.toList=cs.toList:=by rw[hva];rfl
   obtain⟨M',ν',ix,hν⟩:=Tr.Dg hc.mem bm pI t hV.cells (tY s9) (ad:=ad) (by rw[JK];simpa [cC]using hz)
   refine a6 (EU ho w) (hn _ _ _ _ _ M' ν' h ix ?_)
   exact VR.Vf (by show bT _ (id+1) _ id=_;rw[az _ _ ω,ay]) hν
 ·exact Rz hE hc ho h hn
theorem uT{i:Int}{n:Nat}(h:aZ i n=true):0≤i∧i<(n:Int):=by rw[U8]at h;simpa using h
theorem mH{b:Bool}{K:Option α}(h:cond b none K=some r):b=false∧K=some r:=by
 cases b
 ·exact⟨rfl,h⟩
 ·cases h
theorem Cs(hm:Mem c σ.H w M ν){x:bD}{u:Value}(hv:VR w M σ.H ν x u){K:(υ:Ty)→υ.den→List Nat→Option α}(h:lf x σ.H K=some r):
  ∃υ y rd,K υ y rd=some r∧ ∃b off cs,u= .pointer (some ⟨b,off,none⟩)∧At w b off cs∧Rd w M υ cs y:=by
 unfold lf at h
 split at h
 ·simp only[VR]at hv
  obtain⟨b,off,rfl,_,_,cs,ha,hr⟩:=hv
  exact⟨_,_,_,h,b,off,cs,rfl,ha,hr⟩
 ·rename_i id p
  simp only[VR]at hv
  obtain⟨e,he,oc⟩:=hv
  have mS:=hm.ln id e he
  rw[he]at h
  cases e with
  |obj τ x=>
   obtain⟨υ,y,o',hp,hK⟩:=ki h
   simp only[AR]at oc
   obtain⟨hi,b,hb,rfl⟩:=oc
   simp only[ER]at mS
   obtain⟨b',cs,t,ff,hg,_,hr⟩:=mS
   rw[hb]at ff;cases ff
   have:=hp.eq.2
   subst this
   exact⟨υ,y,_,hK,b,_,_,rfl,At.of_block hg _ _,hp.rd hi hr⟩
  |own e l=>
   simp only[AR]at oc
   obtain⟨i,q,rfl,Ht,hi,b,n,cp,hb,rfl⟩:=oc
   obtain⟨υ,y,o',hp,hK⟩:=ki h
   simp only[ER]at mS
   rcases mS with⟨rfl,_⟩|⟨b',cs,t,cap,ff,hg,_,UU,hl,Hc,hs,hr⟩
   ·simp at Ht
   ·rw[hb]at ff;cases ff
    have:=hp.eq.2
    subst this
    have h1:=hr i Ht
    rw[←kP l i e.zero Ht]at h1
    have h2:=hp.rd hi h1
    have h3:=hp.bound hi
    rw[qP,jJ,qQ,gZ ω]at h2
    exact⟨υ,y,_,hK,b,_,_,rfl,At.of_block hg _ _,h2⟩
  |oS e l=>
   simp only[AR]at oc
   obtain⟨i,q,rfl,Ht,hi,b,n,cp,hb,rfl⟩:=oc
   obtain⟨υ,y,o',hp,hK⟩:=ki h
   simp only[ER]at mS
   have lh:=mS.1
   simp only[Rd,fv,ec]at lh
   obtain⟨a0,cap,ha0,_,hr⟩:=lh
   obtain⟨b',off,rfl,_,_,cs,p6,hrr⟩:=hr i Ht
   rw[hb]at ha0;cases ha0
   have:=hp.eq.2
   subst this
   rw[gq]at p6
   have alO:Rd w M e cs (List.getD l i e.zero):=by rw[kP l i e.zero Ht];exact hrr
   have h2:=hp.rd hi alO
   have h3:=hp.bound hi
   have Y8:=alO.length
   refine⟨υ,y,_,hK,b,_,_,rfl,?_,h2⟩
   intro j v hj
   rw[lZ]at hj
   split at hj
   ·rw[mc]at hj
    have:=p6 _ v hj
    rwa [←o7]at this
   ·cases hj
  |gk _ _ _ _=>cases h
  |gone=>cases h
 ·cases h
theorem Mem.linked{H:Nat→Option bh}(hm:Mem c H w M ν){id:Nat}{τ:Ty}{x:τ.den}{q:List Step}{j:Nat}(bm:H id=some (.gk τ x q j)):
  ∃b cs t sH e,ν id= .pointer (some ⟨b,0,none⟩)∧w.heap[b]? =some (.cells cs t (0,0))∧M b∧Rd w M τ sH x∧cs.toList=fj sH (cC q τ) [ν j]∧(ν j).oneCell'=true∧gW q τ (.slice e)=true∧cC q τ<sH.length∧H j≠none:=by
 have mS:=hm.ln id _ bm
 simp only[ER]at mS
 obtain⟨b,cs,t,sH,u,hb,hg,hM,hr,JK,h1,e,hq⟩:=mS
 obtain⟨hj,b',ff,RA⟩:=hm.gk id _ _ _ _ bm
 rw[hb]at ff;cases ff
 obtain⟨y,o,hp⟩:=tR hq x
 have fA:cC q τ<sH.length:=by
  have:=hp.bound (kQ hq).1
  have h2:=hp.eq.2
  have h3:=hr.length
  have:(Ty.slice e).size=1:=rfl
  omega
 have hu:u=ν j:=by
  rw[cell_of hg,←gY,JK,D0 fA]at RA
  exact lE RA
 subst hu
 exact⟨b,cs,t,sH,e,hb,hg,hM,hr,JK,h1,hq,fA,hj⟩
theorem yJ{H:Nat→Option bh}(hm:Mem c H w M ν){id:Nat}{τ:Ty}{x:τ.den}{q:List Step}{j:Nat}(bm:H id=some (.gk τ x q j)){k:τ.den→ja→Option α}(h:Df j q τ x H k=some r):
  ∃z ups M',k z ups=some r∧Tr c H w M ν (cY H ups) w M' ν∧Fz H (cY H ups)∧((∃e l,H j=some (.oS e l)∧ups=[])∨ ∃e l,H j=some (.own e l)∧ups=[(j,some (.oS e l))])∧ ∃b cs t,ν id= .pointer (some ⟨b,0,none⟩)∧w.heap[b]? =some (.cells cs t (0,0))∧M' b∧Rd w M' τ cs.toList z:=by
 obtain⟨b,cs,t,sH,e0,hb,hg,hM,hr,JK,h1,hq,fA,hj⟩:=hm.linked bm
 have Vi:=(kQ hq).1
 unfold Df at h
 split at h
 ·rename_i e l Hg
  obtain⟨z,hz,E0,Hf,yc⟩:=pa h
  obtain⟨M',ix,hV,hM'⟩:=Tr.freeze hm Hg
  refine⟨z,_,M',hz,ix,λi=> ?_,.inr ⟨e,l,Hg,rfl⟩,b,cs,t,hb,hg,?_,?_⟩
  ·by_cases hi:i=j
   ·subst hi;exact .inr ⟨e,l,Hg,ay _ _ _⟩
   ·exact .inl (az _ _ hi)
  ·refine(hM' b).2 ⟨hM,λhjb=> ?_⟩
   have iI:j≠id:=λe=>by rw[e,bm]at Hg;cases Hg
   exact hm.zP j id _ _ b iI Hg trivial bm trivial hjb (by rw[hb];rfl)
  ·rw[JK]
   exact yc w M' sH [ν j] Vi (hr.cc ix.cc) (V.slice.1 hV)
 ·rename_i e l Hg
  obtain⟨z,hz,E0,Hf,yc⟩:=pa h
  have mS:=hm.ln j _ Hg
  simp only[ER]at mS
  refine⟨z,_,M,hz,.refl hm,.refl H,.inl ⟨e,l,Hg,rfl⟩,b,cs,t,hb,hg,hM,?_⟩
  rw[JK]
  exact yc w M sH [ν j] Vi hr mS.1
 ·cases h
theorem ak7{τ υ:Ty}{t:TypeId}(hE:EnvTy P E)(ht:E.ty t=some τ)(h:gW ([]:List Step) υ τ=true):υ=τ:=bF h
theorem Rd.agV{e:Ty}{v:Value}{cs:List Value}{l:List e.den}(h:Rd w M (.slice e) cs l): ∃a n cap,cs=[.slice a n cap]:=by
 simp only[Rd]at h
 obtain⟨a,cap,rfl,_⟩:=h
 exact⟨a,_,cap,rfl⟩
theorem Hu{ρ:Operand→Value}{t:TypeId}{x:Operand}(ho:o.op= .load t x){τ:Ty}(h:kO P τ t)(ha:τ.isAgg=false){b off:Nat}{v:Value}(hx:ρ x= .pointer (some ⟨b,off,none⟩))(hc:w.cell? ⟨b,off,none⟩=some v):
  (execOp ρ o).run P w= .ok (.value v) w:=by
 have:(loadVar t ⟨b,off,none⟩).run P w= .ok v w:=by
  simp[loadVar,tV h,ha,load,Sem.run,hc]
 simp[execOp,ho,hx,Instr.loadAt,Instr.sureAddr,this]
theorem L9(hE:EnvTy P E)(hc:Core c σ a.tmps w M ν){t:TypeId}{x:Operand}(ho:o.op= .load t x){K:jf α}{τ:Ty}(ht:E.ty t=some τ)
  (h:lf (σ.ρ x) σ.H (fun υ y rd=>c8 υ τ y λz=>K (.val τ z) rd [])=some r) (hn:gi c σ a o w M ν K r next):o.wp P a w next Q:=by
 obtain⟨υ,y,rd,h,b,off,cs,hu,p6,hr⟩:=Cs hc.mem (hc.ev x) h
 obtain⟨e,h⟩:=bC h
 subst e
 refine a6 (wG ho (hE.ty t _ ht) hu p6 hr) (hn _ _ _ _ _ _ _ h (.refl hc.mem) ?_)
 simp only[VR]
 exact V.cI hr
theorem Za(hE:EnvTy P E)(hc:Core c σ a.tmps w M ν){t:TypeId}{x:Operand}(ho:o.op= .load t x){K:jf α}{τ:Ty}(ht:E.ty t=some τ)
  (h:vA τ (σ.ρ x) σ.H K=some r) (hn:gi c σ a o w M ν K r next):o.wp P a w next Q:=by
 unfold vA at h
 simp only at h
 split at h
 ·rename_i id p hx
  split at h
  ·rename_i υ z q j bm
   have hv:=hc.ev x
   rw[hx]at hv
   simp only[VR]at hv
   obtain⟨e1,PW,oc⟩:=hv
   rw[bm]at PW;cases PW
   simp only[AR]at oc
   obtain⟨hi,b,hb,hu⟩:=oc
   obtain⟨b',cs,te,sH,e0,ff,hg,hM,hr,JK,h1,hq,fA,hj⟩:=hc.mem.linked bm
   rw[hb]at ff;cases ff
   cases hp:LP p q
   ·rw[hp]at h
    cases Co:xX p q
    ·
     rw[Co]at h
     simp only[ar]at h
     obtain⟨υ',y,o',yd,h⟩:=ki h
     obtain⟨e2,h⟩:=bC h
     subst e2
     have hap:=yd.apart hi hq Co
     have ho':=yd.eq.2
     subst ho'
     have Hf:=yd.bound hi
     have hlen:=hr.length
     have lh:Rd w M υ' ((cs.toList.drop (cC p υ)).take υ'.size) y:=by
      rw[JK,JH (by simp only[aK];omega) (by simp only[aK];omega)]
      exact yd.rd hi hr
     refine a6 (wG ho (hE.ty t _ ht) hu (At.of_block hg _ _) lh) (hn _ _ _ _ _ M ν h (.refl hc.mem) ?_)
     simp only[VR]
     exact V.cI lh
    ·
     rw[Co]at h
     simp only[ar,ak]at h
     obtain⟨z',ups,M',h,ix,_,_,b2,cs2,t2,tU,Vj,JL,zV⟩:=yJ hc.mem bm h
     rw[hb]at tU;cases tU
     rw[hg]at Vj;cases Vj
     obtain⟨υ',y,o',yd,h⟩:=ki h
     obtain⟨e2,h⟩:=bC h
     subst e2
     have ho':=yd.eq.2
     subst ho'
     have lh:=yd.rd hi zV
     refine a6 (wG ho (hE.ty t _ ht) hu (At.of_block hg _ _) lh) (hn _ _ _ _ _ M' ν h ix ?_)
     simp only[VR]
     exact V.cI lh
   ·
    rw[hp]at h
    have:=Bl hp
    subst this
    simp only[ak]at h
    obtain⟨hpq,hK⟩:=cB h
    have hτ:τ= .slice e0:=(kQ hpq).2.symm.trans (kQ hq).2
    subst hτ
    have RA:w.cell? ⟨b,cC p υ,none⟩=some (ν j):=by rw[cell_of hg,←gY,JK,D0 fA]
    refine a6 (Hu ho (hE.ty t _ ht) rfl hu RA) (hn _ _ _ _ _ M ν hK (.refl hc.mem) ?_)
    simp only[VR]
    exact⟨hj,trivial⟩
  ·exact L9 hE hc ho ht h hn
 ·exact L9 hE hc ho ht h hn
end VM
end
section
namespace VM
open Go
variable{P:Program}{E:Env}{o:Oper}{a:Act}{w:World}{M:Nat→Prop}{ν:Nat→Value}{σ:St}{c:Ctx}{α:Type}{r:α}{next:Act→World→Prop}{Q:Exit→Act→World→Prop}
theorem Fz.own{H H1:Nat→Option bh}(h:Fz H H1){i:Nat}{e:Ty}{l:List e.den}(hi:H i=some (.own e l)):H1 i=some (.own e l)∨H1 i=some (.oS e l):=by
 rcases h i with h'|⟨e',l',h1,h2⟩
 ·exact .inl (by rw[h',hi])
 ·rw[hi]at h1;cases h1;exact .inr h2
theorem SX(hE:EnvTy P E)(hc:Core c σ a.tmps w M ν){t:TypeId}{x y:Operand}(ho:o.op= .store t x y){K:jf α}{τ:Ty}(ht:E.ty t=some τ)
  (h:mv τ (σ.ρ x) (σ.ρ y) σ.H K=some r) (hn:gi c σ a o w M ν K r next):o.wp P a w next Q:=by
 unfold mv at h
 split at h
 ·rename_i id p hx
  obtain⟨z,rd,ups,M',h,ix,hV,hz,lh⟩:=ov (.refl _) hc.mem (hc.ev y) h
  have hv:=hc.ev x
  rw[hx]at hv
  have hvz:=VR.cc ix.cc ix.goes hv
  have zW:=hE.ty t τ ht
  have Ma:=hV.cells.length
  rw[bJ]at Ma
  split at h
  ·rename_i υ x0 bm
   have pI:=hz.obj bm
   obtain⟨x1,hK,E0,Hf,yc⟩:=pa h
   simp only[VR]at hvz
   obtain⟨e1,PW,oc⟩:=hvz
   rw[pI]at PW;cases PW
   simp only[AR]at oc
   obtain⟨hi,b,hb,hu⟩:=oc
   have mS:=ix.mem.ln id _ pI
   simp only[ER]at mS
   obtain⟨b',cs,te,ff,hg,hM,hr⟩:=mS
   rw[hb]at ff;cases ff
   have Hf:=Hf hi
   have Y8:=hr.length
   rw[bJ]at Y8
   have dJ:=nz (P:=P) ho zW hu hg Ma ω hV.cells.oT
   rw[bJ]at dJ
   have wI:Tr c (cY σ.H ups) w M' ν (bT (cY σ.H ups) id (some (.obj υ x1))) (w.setRow b (fj cs.toList (cC p υ) (a.eval y).cells.toList).toArray) M' ν:=by
    refine Tr.write (e':= .obj υ x1) ix.mem pI trivial trivial rfl (by rw[hb];rfl) hg λPx hk Bo=> ?_
    simp only[ER]
    refine⟨b,_,te,hb,setRow_heap w b cs _ te _ hg,Bo,?_⟩
    exact(yc w M' cs.toList _ hi hr hV.cells).cc hk
   refine q6 dJ ?_
   refine hn _ _ _ _ _ M' ν hK ?_ (by simp[VR])
   rw[gw]
   have:=ix.trans wI
   unfold fj at this
   rw[bJ]at this
   exact this
  ·rename_i e l bm
   split at h
   ·rename_i i q h0
    obtain⟨zX,h⟩:=mH h
    have pI:cY σ.H ups id=some (.own e l):=by rw[lh id zX];exact bm
    obtain⟨y1,hK,E0,Hf,yc⟩:=pa h
    simp only[VR]at hvz
    obtain⟨e1,PW,oc⟩:=hvz
    rw[pI]at PW;cases PW
    simp only[AR]at oc
    obtain⟨i',q',hpq,Ht,hi,b,n,cp,hb,hu⟩:=oc
    cases hpq
    have mS:=ix.mem.ln id _ pI
    simp only[ER]at mS
    rcases mS with⟨rfl,_⟩|⟨b',cs,te,cap,ff,hg,hM,UU,hl,Hc,hs,hr⟩
    ·simp at Ht
    ·rw[hb]at ff;cases ff
     have Hf:=Hf hi
     have tT:=eH (s:=e.size) Ht
     have yu:l.length*e.size≤cp*e.size:=kK _ hl
     have dJ:=nz (P:=P) ho zW hu hg Ma ω hV.cells.oT
     rw[bJ]at dJ
     have hri:=hr i Ht
     rw[←kP l i e.zero Ht]at hri
     have pL:=yc w M' _ _ hi hri hV.cells
     have hch:((cs.toList.drop (i*e.size)).take e.size).length=e.size:=hri.length
     have Zb:fj cs.toList (i*e.size) (fj ((cs.toList.drop (i*e.size)).take e.size) (cC q e) (a.eval y).cells.toList)=fj cs.toList (i*e.size+cC q e) (a.eval y).cells.toList:=by
      have YE:=pL.length
      have e1:cs.toList=cs.toList.take (i*e.size)++(((cs.toList.drop (i*e.size)).take e.size)++cs.toList.drop (i*e.size+e.size)):=by
       rw[←jJ,fW,fW]
      have fA:(cs.toList.take (i*e.size)).length=i*e.size:=by rw[bO,bJ];omega
      conv=>rhs;rw[e1]
      rw[show i*e.size+cC q e=(cs.toList.take (i*e.size)).length+cC q e from by rw[fA],xu,zO (by rw[hch,bJ];omega)]
      generalize fj ((cs.toList.drop (i*e.size)).take e.size) (cC q e) (a.eval y).cells.toList=m at YE ⊢
      unfold fj
      rw[YE,bM]
     have wI:Tr c (cY σ.H ups) w M' ν (bT (cY σ.H ups) id (some (.own e (List.set l i y1)))) (w.setRow b (fj cs.toList (i*e.size+cC q e) (a.eval y).cells.toList).toArray) M' ν:=by
      refine Tr.write (e':= .own e (List.set l i y1)) ix.mem pI trivial trivial ⟨rfl,by rw[bB]⟩ (by rw[hb];simp[fL];omega) hg λPx hk Bo=> ?_
      simp only[ER]
      refine .inr ⟨b,_,te,cp,by rw[bB];exact hb,setRow_heap w b cs _ te _ hg,Bo,UU,by rw[bB];exact hl,Hc,?_,?_⟩
      ·rw[←Zb,je,gK (by rw[pL.length,bJ];omega),bJ];exact hs
      ·have h9:cs.toList.length=cp*e.size:=by rw[bJ,hs]
       have h10:=q5.set (w:=w) (M:=M') (cs:=cs.toList) (l:=l) hr (by rw[h9];exact yu) Ht pL
       rw[Zb]at h10
       exact λj hj=>(h10 j hj).cc hk
     refine q6 dJ ?_
     refine hn _ _ _ _ _ M' ν hK ?_ (by simp[VR])
     rw[gw]
     have:=ix.trans wI
     unfold fj at this
     rw[bJ]at this
     exact this
   ·cases h
  ·cases h
 ·cases h
theorem Fz.gk{H H1:Nat→Option bh}(h:Fz H H1){i:Nat}{τ:Ty}{x:τ.den}{p:List Step}{j:Nat}(hi:H i=some (.gk τ x p j)):H1 i=some (.gk τ x p j):=by
 rcases h i with h'|⟨e',l',h1,h2⟩
 ·rw[h',hi]
 ·rw[hi]at h1;cases h1
theorem yK{β:Type}{l a:List β}{o:Nat}(hl:o+a.length≤l.length)(i:Nat):(fj l o a)[i]? =if o≤i∧i<o+a.length then a[i-o]? else l[i]? :=by
 unfold fj
 by_cases h1:i<o
 ·rw[ah ω,bM,sC (by simp;omega),lZ,aj h1]
 ·by_cases h2:i<o+a.length
  ·rw[aj ω,sC (by simp;omega),oP (by simp;omega)]
   simp[gZ (show o≤l.length by omega)]
  ·rw[ah ω,oP (by simp;omega)]
   simp only[aT,bO,gZ (show o≤l.length by omega),mc]
   congr 1;omega
theorem Mb{β:Type}{l a b:List β}{o o':Nat}(h:o'≤o∧o+a.length≤o'+b.length)(h1:o+a.length≤l.length)(h2:o'+b.length≤l.length):fj (fj l o a) o' b=fj l o' b:=by
 have l1:=gK (a:=l) (o:=o) (new:=a) h1
 apply zw
 intro i
 rw[yK ω,yK ω,yK ω]
 by_cases c1:o'≤i∧i<o'+b.length
 ·rw[aj c1,aj c1]
 ·rw[ah c1,ah c1,ah ω]
theorem Ib{β:Type}{l:List β}{o:Nat}{u v:β}(h:o<l.length):fj (fj l o [u]) o [v]=fj l o [v]:=
 Mb (by simp) (by simp;omega) (by simp;omega)
theorem Vk{β:Type}{l a b:List β}{o o':Nat}(h:o+a.length≤o'∨o'+b.length≤o)(h1:o+a.length≤l.length)(h2:o'+b.length≤l.length):fj (fj l o a) o' b=fj (fj l o' b) o a:=by
 have l1:=gK (a:=l) (o:=o) (new:=a) h1
 have l2:=gK (a:=l) (o:=o') (new:=b) h2
 apply zw
 intro i
 rw[yK ω,yK ω,yK ω,yK ω]
 by_cases c1:o'≤i∧i<o'+b.length
 ·rw[aj c1,ah ω,aj c1]
 ·rw[ah c1]
  by_cases c2:o≤i∧i<o+a.length
  ·rw[aj c2,aj c2]
  ·rw[ah c2,ah c2,ah c1]
theorem Mc{m:(υ:Ty)→υ.den→(υ.den→Option α)→Option α}: ∀{τ:Ty} {x:τ.den} {n:Nat} {k:τ.den→Option α},ns τ x n m k=some r→ ∃υ y o k',Dh τ x n υ y o∧m υ y k'=some r:=λh=>by
 obtain⟨υ,y,o,k',h1,h2,_⟩:=sJ h
 exact⟨υ,y,o,k',h1,h2⟩
theorem E1{υ:Ty}{u:υ.den}: ∀{p:List Step} {τ:Ty} {x:τ.den} {k:τ.den→Option α},vP υ u p τ x k=some r→ ∃y o,JG p τ x υ y o
 |[],τ,x,k,h=>by
  obtain⟨e,_⟩:=bC (h:c8 υ τ u k=some r)
  subst e
  exact⟨x,0,.nil x⟩
 | .kH n::p,τ,x,k,h=>by
  obtain⟨υ',y,o,k',hf,hm⟩:=Mc (h:ns τ x n _ k=some r)
  obtain⟨y',o',hp⟩:=E1 (k:=k') hm
  exact⟨y',_,.kH hf hp⟩
 | .idx i::p,τ,x,k,h=>by
  cases τ with
  |arr n e=>
   obtain⟨y',o',hp⟩:=E1 (p:=p) (τ:=e) (x:=List.getD x i e.zero) (k:=λz=>k (List.set x i z)) h
   exact⟨y',_,.idx hp⟩
  |_=>simp[vP,DW]at h
theorem Ic: ∀{p q:List Step} {τ e:Ty},xX p q=true→gW q τ (.slice e)=true→cC p τ≤cC q τ∧cC q τ+1≤cC p τ+(Ho p τ).size
 |[],q,τ,e,_,hq=>by
  obtain⟨_,_,yd⟩:=tR hq τ.zero
  have:=yd.bound (kQ hq).1
  have h2:=yd.eq.2
  have:(Ty.slice e).size=1:=rfl
  simp only[cC,Ho]
  omega
 | .kH a::p,.kH b::q,τ,e,hp,hq=>by
  simp only[xX,bP]at hp
  have:=fV hp.1
  subst this
  unfold gW at hq
  split at hq
  ·rename_i c hc
   obtain⟨_,_,hf⟩:=tQ hc τ.zero
   have:=hf.eq.1
   subst this
   have:=Ic hp.2 hq
   simp only[cC,Ho]
   omega
  ·cases hq
 | .kH _::_,[],_,_,hp,_| .kH _::_,.idx _::_,_,_,hp,_| .idx _::_,_,_,_,hp,_=>by simp[xX]at hp
theorem ER.SY{H:Nat→Option bh}(hm:Mem c H w M ν){k:Nat}{e:Ty}{l:List e.den}(hk:H k=some (.own e l)): ∃ad cp,ν k= .slice ad l.length cp:=by
 have:=hm.ln k _ hk
 simp only[ER]at this
 rcases this with⟨rfl,a,hv⟩|⟨b,cs,t,cap,hv,_⟩
 ·exact⟨a,0,hv⟩
 ·exact⟨_,cap,hv⟩
theorem E2(hE:EnvTy P E)(hc:Core c σ a.tmps w M ν){t:TypeId}{x y:Operand}(ho:o.op= .store t x y){K:jf α}{τ:Ty}(ht:E.ty t=some τ){id k:Nat}{q:List Step}{e:Ty}{υ:Ty}{z:υ.den}
  (hx:σ.ρ x= .jr id q) (hy:σ.ρ y= .ref k) {en:bh} (bm:σ.H id=some en) (hen:en.mut) (Ie:en.lK (.gk υ z q k)) (hq:gW q υ (.slice e)=true)
  (jX: ∃b cs te sH u,ν id= .pointer (some ⟨b,0,none⟩)∧w.heap[b]? =some (.cells cs te (0,0))∧Rd w M υ sH z∧cs.toList=fj sH (cC q υ) [u])
  (h:Cm τ id k e q υ z σ.H K=some r) (hn:gi c σ a o w M ν K r next):o.wp P a w next Q:=by
 unfold Cm at h
 split at h
 ·rename_i e' l hk
  obtain⟨e1,h1⟩:=fY h
  clear h
  subst e1
  obtain⟨e2,h2⟩:=fY h1
  clear h1
  subst e2
  obtain⟨z',hK,E0,Hf,yc⟩:=pa h2
  obtain⟨b,cs,te,sH,u,hb,hg,hr,JK⟩:=jX
  have Vi:=(kQ hq).1
  obtain⟨ad,cp,hνk⟩:=ER.SY hc.mem hk
  have Dn:=hc.ev y
  rw[hy]at Dn
  simp only[VR]at Dn
  have Dn:=Dn.2
  have Hf:=Hf Vi
  have hlen:=hr.length
  have Py:(Ty.slice e').size=1:=rfl
  have fA:cC q υ<sH.length:=ω
  have Ma:cs.toList.length=sH.length:=by rw[JK];exact gK (by simp;omega)
  have hv:=hc.ev x
  rw[hx]at hv
  simp only[VR]at hv
  obtain⟨e3,he3,oc⟩:=hv
  rw[bm]at he3;cases he3
  have oc:=oc.lK Ie
  simp only[AR]at oc
  obtain⟨_,b',ff,hu⟩:=oc
  rw[hb]at ff;cases ff
  have hyc:(a.eval y).cells.toList=[ν k]:=by rw[Dn,hνk];rfl
  have sh:(a.eval y).cells.size=(Ty.slice e').size:=by rw[←bJ,hyc];rfl
  have dJ:=nz (P:=P) ho (hE.ty t _ ht) hu hg sh (by rw[←bJ];omega) (by rw[hyc,hνk];simp[Value.oneCell'])
  have pL:(cs.toList.take (cC q υ)++(a.eval y).cells.toList++cs.toList.drop (cC q υ+(a.eval y).cells.toList.length))=fj sH (cC q υ) [ν k]:=by
   rw[hyc]
   show fj cs.toList (cC q υ) [ν k]=_
   rw[JK,Ib fA]
  rw[pL]at dJ
  have hrz:Rd w M υ (fj sH (cC q υ) [.slice none 0 0]) z':=yc w M sH [.slice none 0 0] Vi hr (Rd.zero w M (.slice e'))
  have ix:Tr c σ.H w M ν (bT σ.H id (some (.gk υ z' q k))) (w.setRow b (fj sH (cC q υ) [ν k]).toArray) M ν:=by
   refine Tr.write (e':= .gk υ z' q k) hc.mem bm hen trivial (by cases en<;>simp only[bh.lK]at Ie ⊢ <;>exact Ie) (by rw[hb];rfl) hg (λPx Hv Bo=> ?_) (fun τ' x' p' j' hl=> ?_)
   ·simp only[ER]
    refine⟨b,_,te,fj sH (cC q υ) [.slice none 0 0],ν k,hb,setRow_heap w b cs _ te _ hg,Bo,hrz.cc Hv,?_,by rw[hνk];rfl,e',hq⟩
    rw[Ib fA]
   ·cases hl
    refine⟨by rw[hk];simp,b,hb,?_⟩
    rw[cell_of (setRow_heap w b cs _ te _ hg),←gY]
    show(fj sH (cC q υ) [ν k])[cC q υ]? =_
    rw[D0 fA]
  exact q6 dJ (hn _ _ _ _ _ M ν hK ix (by simp[VR]))
 ·cases h
theorem E3(hE:EnvTy P E)(hc:Core c σ a.tmps w M ν){t:TypeId}{x y:Operand}(ho:o.op= .store t x y){K:jf α}{τ:Ty}(ht:E.ty t=some τ)
  (h:kf E τ (σ.ρ x) (σ.ρ y) σ.H K=some r) (hn:gi c σ a o w M ν K r next):o.wp P a w next Q:=by
 have hold:mv τ (σ.ρ x) (σ.ρ y) σ.H K=some r→o.wp P a w next Q:=λh=>SX hE hc ho ht h hn
 unfold kf at h
 simp only at h
 split at h
 ·rename_i id p hx
  have pK:=hx
  split at h
  ·rename_i υ z bm
   split at h
   ·rename_i q e k s9 hy
    cases hp:LP p q
    ·rw[hp]at h;exact hold h
    ·rw[hp]at h
     simp only[ak]at h
     have:=Bl hp
     subst this
     have hq:=tY s9
     have mS:=hc.mem.ln id _ bm
     simp only[ER]at mS
     obtain⟨b,cs,te,hb,hg,hM,hr⟩:=mS
     have fA:cC p υ<cs.toList.length:=by
      obtain⟨_,_,yd⟩:=tR hq z
      have:=yd.bound (kQ hq).1
      have h2:=yd.eq.2
      have:=hr.length
      have:(Ty.slice e).size=1:=rfl
      omega
     refine E2 hE hc ho ht hx hy bm trivial rfl hq ⟨b,cs,te,cs.toList,cs.toList[cC p υ],hb,hg,hr,?_⟩ h hn
     exact(L1 (bl fA)).symm
   ·exact hold h
  ·rename_i υ z q j bm
   obtain⟨b,cs,te,sH,e0,hb,hg,hM,hr,JK,h1,hq,fA,hj⟩:=hc.mem.linked bm
   have zY:mu true (σ.ρ y) σ.H τ (λy rd ups=>vP τ y p υ z λz=>K .any (id::rd) (ups++[(id,some (cond (xX p q) (.obj υ z) (.gk υ z q j)))]))=some r→o.wp P a w next Q:=by
    intro h
    obtain⟨u,rd,ups,M',h,ix,hV,hz,lh⟩:=ov (.refl _) hc.mem (hc.ev y) h
    have pI:=hz.gk bm
    have hv:=hc.ev x
    rw[hx]at hv
    have hvz:=VR.cc ix.cc ix.goes hv
    simp only[VR]at hvz
    obtain⟨e1,PW,oc⟩:=hvz
    rw[pI]at PW;cases PW
    simp only[AR]at oc
    obtain⟨hi,b1,mG,hu⟩:=oc
    rw[hb]at mG;cases mG
    obtain⟨b2,cs2,te2,cs3,e3,tU,Vj,JL,zV,Zc,h12,YF,alU,hj2⟩:=ix.mem.linked pI
    rw[hb]at tU;cases tU
    rw[hg]at Vj;cases Vj
    obtain⟨z',hK,E0,Hf,yc⟩:=pa h
    have Hf:=Hf hi
    have Y8:=zV.length
    have Ma:cs.toList.length=cs3.length:=by rw[Zc];exact gK (by simp;omega)
    have hcy:=hV.cells.length
    rw[bJ]at hcy
    have ayA:(a.eval y).cells.toList.length=τ.size:=by rw[bJ];exact hcy
    have dJ:=nz (P:=P) ho (hE.ty t _ ht) hu hg hcy (by rw[←bJ];omega) hV.cells.oT
    have Vl:cs.toList.take (cC p υ)++(a.eval y).cells.toList++cs.toList.drop (cC p υ+(a.eval y).cells.toList.length)=fj cs.toList (cC p υ) (a.eval y).cells.toList:=rfl
    rw[Vl]at dJ
    have hzr:=yc w M' cs3 _ hi zV hV.cells
    have fin: ∀e',e'.mut→bh.lK (.gk υ z q j) e'→K .any (id::rd) (ups++[(id,some e')])=some r→(∀Px,fh w M' (w.setRow b (fj cs.toList (cC p υ) (a.eval y).cells.toList).toArray) Px→Px b→ER (w.setRow b (fj cs.toList (cC p υ) (a.eval y).cells.toList).toArray) Px (ν id) e')→
      (∀τ' x' p' j',e'= .gk τ' x' p' j'→(cY σ.H ups) j'≠none∧ ∃b',ν id= .pointer (some ⟨b',0,none⟩)∧(w.setRow b (fj cs.toList (cC p υ) (a.eval y).cells.toList).toArray).cell? ⟨b',cC p' τ',none⟩=some (ν j'))→o.wp P a w next Q:=by
     intro e' jW JF hK SS s9
     have wI:=Tr.write (e':=e') ix.mem pI trivial jW JF (by rw[hb];rfl) hg SS s9
     refine q6 dJ (hn _ _ _ _ _ M' ν hK ?_ (by simp[VR]))
     rw[gw]
     exact ix.trans wI
    cases Co:xX p q
    ·rw[Co]at hK
     simp only[ar]at hK
     obtain⟨yy,oo,yd⟩: ∃y o,JG p υ z τ y o:=E1 h
     have hap:=yd.apart hi hq Co
     have hoo:=yd.eq.2
     subst hoo
     have afC:fj cs.toList (cC p υ) (a.eval y).cells.toList=fj (fj cs3 (cC p υ) (a.eval y).cells.toList) (cC q υ) [ν j]:=by
      rw[Zc]
      exact Vk (by simp only[aK];omega) (by simp only[aK];omega) ω
     have YE:=gK (a:=cs3) (o:=cC p υ) (new:=(a.eval y).cells.toList) ω
     refine fin (.gk υ z' q j) trivial rfl hK (λPx hk Bo=> ?_) (fun τ' x' p' j' hl=> ?_)
     ·simp only[ER]
      exact⟨b,_,te,_,ν j,hb,setRow_heap w b cs _ te _ hg,Bo,hzr.cc hk,afC,h1,e0,hq⟩
     ·cases hl
      refine⟨hj2,b,hb,?_⟩
      rw[cell_of (setRow_heap w b cs _ te _ hg),←gY]
      show(fj cs.toList (cC p υ) (a.eval y).cells.toList)[cC q υ]? =_
      rw[afC,D0 ω]
    ·rw[Co]at hK
     simp only[ak]at hK
     refine fin (.obj υ z') trivial rfl hK (λPx hk Bo=> ?_) (fun τ' x' p' j' hl=>by cases hl)
     simp only[ER]
     refine⟨b,_,te,hb,setRow_heap w b cs _ te _ hg,Bo,?_⟩
     show Rd _ _ υ (fj cs.toList (cC p υ) (a.eval y).cells.toList) z'
     have m4:=Ic Co hq
     rw[E0]at m4
     have ho:fj cs.toList (cC p υ) (a.eval y).cells.toList=fj cs3 (cC p υ) (a.eval y).cells.toList:=by
      rw[Zc]
      exact Mb (by simp only[aK];omega) (by simp only[aK];omega) ω
     have h9:=hzr.cc hk
     rw[←ho]at h9
     exact h9
   split at h
   ·rename_i q' e k s9 hy
    cases hp:(LP p q&&LP q q')
    ·rw[hp]at h;exact zY h
    ·rw[hp]at h
     simp only[ak]at h
     rw[bP]at hp
     have:=Bl hp.1
     subst this
     have:=Bl hp.2
     subst this
     refine E2 hE hc ho ht hx hy bm trivial rfl (tY s9) ⟨b,cs,te,sH,ν j,hb,hg,hr,JK⟩ h hn
   ·exact zY h
  ·exact hold h
 ·exact hold h
theorem SZ(hE:EnvTy P E)(hc:Core c σ a.tmps w M ν){t:TypeId}{x y:Operand}(ho:o.op= .store t x y){K:jf α}{τ:Ty}(ht:E.ty t=some τ)
  (h:s6 E τ (σ.ρ x) (σ.ρ y) σ.H K=some r) (hn:gi c σ a o w M ν K r next):o.wp P a w next Q:=by
 unfold s6 at h
 split at h
 ·rename_i id υ z n hx hy
  split at h
  ·rename_i m e s9
   cases EZ:Nat.beq m n
   ·rw[EZ]at h
    simp only[ar]at h
    exact E3 hE hc ho ht h hn
   ·rw[EZ]at h
    simp only[ak]at h
    have EZ:=fV EZ
    subst EZ
    obtain⟨e1,h1⟩:=fY h
    clear h
    subst e1
    have hq:=tY s9
    have Dn:=hc.ev y
    rw[hy]at Dn
    simp only[VR]at Dn
    obtain⟨hV,cs,ad,hva,hz⟩:=Dn
    have hcy:(a.eval y).cells=cs:=by rw[hva];rfl
    obtain⟨en,bm,hen,hK⟩: ∃en:bh,σ.H id=some en∧(∃z0,en= .obj τ z0∨ ∃q j,en= .gk τ z0 q j)∧σ.H (id+2)=none∧K .any [id,id+2] [(id,some (.gk τ z [.kH m] (id+2))),(id+2,some (.own e []))]=some r:=by
     unfold nv at h1
     split at h1
     ·rename_i υ z0 bm
      obtain⟨e2,h2⟩:=fY h1
      clear h1
      subst e2
      obtain⟨h3,h4⟩:=lL h2
      exact⟨_,bm,⟨z0,.inl rfl⟩,h3,h4⟩
     ·rename_i υ z0 q j bm
      obtain⟨e2,h2⟩:=fY h1
      clear h1
      subst e2
      obtain⟨h3,h4⟩:=lL h2
      exact⟨_,bm,⟨z0,.inr ⟨q,j,rfl⟩⟩,h3,h4⟩
     ·cases h1
     ·cases h1
     ·cases h1
    obtain⟨hk,hK⟩:=hK
    have arD:en.mut:=by rcases hen with⟨z0,rfl|⟨q,j,rfl⟩⟩<;>trivial
    have Ie:en.lK (.obj τ z):=by rcases hen with⟨z0,rfl|⟨q,j,rfl⟩⟩<;>rfl
    obtain⟨b,sH,te,hb,hg,sh⟩: ∃b sH te,ν id= .pointer (some ⟨b,0,none⟩)∧w.heap[b]? =some (.cells sH te (0,0))∧sH.toList.length=τ.size:=by
     rcases hen with⟨z0,rfl|⟨q,j,rfl⟩⟩
     ·have:=hc.mem.ln id _ bm
      simp only[ER]at this
      obtain⟨b,sH,te,h2,h3,_,h5⟩:=this
      exact⟨b,sH,te,h2,h3,h5.length⟩
     ·obtain⟨b,sH,te,ze,_,h2,h3,_,h5,h6,_,_,h7,_⟩:=hc.mem.linked bm
      refine⟨b,sH,te,h2,h3,?_⟩
      rw[h6,gK (by simp only[aK];omega),h5.length]
    have hv:=hc.ev x
    rw[hx]at hv
    simp only[VR]at hv
    obtain⟨e3,he3,oc⟩:=hv
    rw[bm]at he3;cases he3
    have oc:=oc.lK Ie
    simp only[AR]at oc
    obtain⟨_,b',ff,hu⟩:=oc
    rw[hb]at ff;cases ff
    have Ma:=hV.cells.length
    have dJ:=nz (P:=P) ho (hE.ty t _ ht) hu hg (by rw[←bJ];exact Ma) (by rw[←bJ,sh];simp[cC]) hV.cells.oT
    have Vl:sH.toList.take (cC [] τ)++(a.eval y).cells.toList++sH.toList.drop (cC [] τ+(a.eval y).cells.toList.length)=(a.eval y).cells.toList:=by
     simp only[cC,kd,cL,gq]
     rw[kJ ω,cK]
    rw[Vl]at dJ
    have yc:=setRow_heap w b sH (a.eval y).cells.toList.toArray te _ hg
    have ix:=Tr.write (e':= .obj τ z) (new:=(a.eval y).cells.toList.toArray) hc.mem bm arD trivial Ie (by rw[hb];rfl) hg (λPx Hv Bo=>by
     simp only[ER]
     exact⟨b,_,te,hb,yc,Bo,hV.cells.cc Hv⟩)
    have iI:id+2≠id:=ω
    have wI:=Tr.Vg ix.mem (id:=id) (k:=id+2) (by rw[az _ _ iI];exact hk) (ay _ _ _) hb yc hq (ad:=ad) (by rw[hcy];simpa [cC]using hz)
    have e1:cY (bT σ.H id (some (.obj τ z))) [(id,some (.gk τ z [.kH m] (id+2))),(id+2,some (.own e []))]=cY σ.H [(id,some (.gk τ z [.kH m] (id+2))),(id+2,some (.own e []))]:=by
     show bT (bT (bT σ.H id _) id _) (id+2) _=bT (bT σ.H id _) (id+2) _
     rw[yI]
    rw[e1]at wI
    exact q6 dJ (hn _ _ _ _ _ _ _ hK (ix.trans wI) (by simp[VR]))
  ·exact E3 hE hc ho ht h hn
 ·exact E3 hE hc ho ht h hn
end VM
end
section
namespace VM
open Go
variable{P:Program}{E:Env}{o:Oper}{a:Act}{w:World}{M:Nat→Prop}{ν:Nat→Value}{σ:St}{c:Ctx}{α:Type}{r:α}{next:Act→World→Prop}{Q:Exit→Act→World→Prop}
theorem nb{n:Nat}(h:Nat.beq n 0=false):n≠0:=by rw[←qN,wv]at h;exact h
theorem At.sub{b off:Nat}{cs:List Value}(h:At w b off cs)(o n:Nat):At w b (off+o) ((cs.drop o).take n):=by
 intro j v hj
 rw[lZ]at hj
 split at hj
 ·rw[mc]at hj
  have:=h _ v hj
  rwa [←o7]at this
 ·cases hj
def wJ:bh→List Step→Option Ty
 | .obj τ _,p=>some (Ho p τ)
 | .gk τ _ _ _,p=>some (Ho p τ)
 | .own e _,.idx _::p| .oS e _,.idx _::p=>some (Ho p e)
 |_,_=>none
theorem E4{id:Nat}{p:List Step}{H:Nat→Option bh}{k:Ty→Option α}(h:nv id p H k=some r): ∃e υ,H id=some e∧wJ e p=some υ∧k υ=some r:=by
 unfold nv at h
 split at h
 ·rename_i τ x bm
  obtain⟨υ,y,o,hp,hk⟩:=ki h
  exact⟨_,υ,bm,by simp[wJ,hp.eq.1],hk⟩
 ·rename_i τ x _ _ bm
  obtain⟨υ,y,o,hp,hk⟩:=ki h
  exact⟨_,υ,bm,by simp[wJ,hp.eq.1],hk⟩
 ·rename_i e l bm
  split at h
  ·obtain⟨υ,y,o,hp,hk⟩:=ki h
   exact⟨_,υ,bm,by simp[wJ,hp.eq.1],hk⟩
  ·cases h
 ·rename_i e l bm
  split at h
  ·obtain⟨υ,y,o,hp,hk⟩:=ki h
   exact⟨_,υ,bm,by simp[wJ,hp.eq.1],hk⟩
  ·cases h
 ·cases h
theorem AR.step{v:Value}{p:List Step}{u:Value}{e:bh}{υ:Ty}(h:AR v p u e)(ht:wJ e p=some υ)(s:Step)(hs:ya [s] υ):
  ∃b off,u= .pointer (some ⟨b,off,none⟩)∧AR v (p++[s]) (.pointer (some ⟨b,off+cC [s] υ,none⟩)) e:=by
 cases e with
 |obj τ x=>
  simp only[wJ,iC]at ht
  simp only[AR]at h ⊢
  obtain⟨hi,b,hb,rfl⟩:=h
  subst ht
  exact⟨b,_,rfl,(sG p [s] τ).2 ⟨hi,hs⟩,b,hb,by rw[sF]⟩
 |gk τ x _ _=>
  simp only[wJ,iC]at ht
  simp only[AR]at h ⊢
  obtain⟨hi,b,hb,rfl⟩:=h
  subst ht
  exact⟨b,_,rfl,(sG p [s] τ).2 ⟨hi,hs⟩,b,hb,by rw[sF]⟩
 |own e l=>
  simp only[AR]at h ⊢
  obtain⟨i,q,rfl,Ht,hi,b,n,cp,hb,rfl⟩:=h
  simp only[wJ,iC]at ht
  subst ht
  exact⟨b,_,rfl,i,q++[s],rfl,Ht,(sG q [s] e).2 ⟨hi,hs⟩,b,n,cp,hb,by rw[sF,o7]⟩
 |oS e l=>
  simp only[AR]at h ⊢
  obtain⟨i,q,rfl,Ht,hi,b,n,cp,hb,rfl⟩:=h
  simp only[wJ,iC]at ht
  subst ht
  exact⟨b,_,rfl,i,q++[s],rfl,Ht,(sG q [s] e).2 ⟨hi,hs⟩,b,n,cp,hb,by rw[sF,o7]⟩
 |gone=>simp[wJ]at ht
theorem Bp(hE:EnvTy P E)(hc:Core c σ a.tmps w M ν){t:TypeId}{x:Operand}{n:Nat}(ho:o.op= .fieldAddr t x n){K:jf α}{τ:Ty}(ht:E.ty t=some τ){id:Nat}{p:List Step}(hx:σ.ρ x= .jr id p)
  (h:nv id p σ.H (fun υ=>nu υ τ (xY τ τ.zero n fun υ' _=>cond (Nat.beq υ'.size 0) none (K (.jr id (p++[.kH n])) [id] [])))=some r) (hn:gi c σ a o w M ν K r next):o.wp P a w next Q:=by
 obtain⟨e,υ,bm,het,h⟩:=E4 h
 obtain⟨he_,h_⟩:=fY h
 clear h
 subst he_
 have h:=h_
 clear h_
 obtain⟨υ',y,of,hf,h⟩:=tP h
 obtain⟨hz,h⟩:=mH h
 have hv:=hc.ev x
 rw[hx]at hv
 simp only[VR]at hv
 obtain⟨e',wF,oc⟩:=hv
 rw[bm]at wF;cases wF
 obtain⟨b,off,hu,ag0⟩:=oc.step het (.kH n) trivial
 obtain⟨fs,f,Pz,hff,hfo,S1⟩:=(hE.ty t υ ht).kH hf
 obtain⟨v,dJ,hvv⟩:=tX (P:=P) ho (w:=w) Pz hff S1 (nb hz) hu
 refine a6 dJ (hn _ _ _ _ _ M ν h (.refl hc.mem) ?_)
 simp only[VR]
 refine⟨e,bm,?_⟩
 rw[hvv,hfo,hf.eq.2]
 simpa [cC]using ag0
theorem zZ(hE:EnvTy P E)(hc:Core c σ a.tmps w M ν){t:TypeId}{x:Operand}{n:Nat}(ho:o.op= .fieldAddr t x n){K:jf α}{τ:Ty}(ht:E.ty t=some τ){υ:Ty}{z:υ.den}(hx:σ.ρ x= .qW υ z)
  (h:nu υ τ (xY υ z n fun υ y=>cond (Nat.beq υ.size 0) none (K (.qW υ y) [] []))=some r) (hn:gi c σ a o w M ν K r next):o.wp P a w next Q:=by
 obtain⟨he,h1⟩:=fY h
 subst he
 obtain⟨υ',y,of,hf,h⟩:=tP h1
 obtain⟨hz,h⟩:=mH h
 have hv:=hc.ev x
 rw[hx]at hv
 simp only[VR]at hv
 obtain⟨b,off,hu,hb,hM,cs,p6,hr⟩:=hv
 obtain⟨fs,f,Pz,hff,hfo,S1⟩:=(hE.ty t υ ht).kH hf
 obtain⟨v,dJ,hvv⟩:=tX (P:=P) ho (w:=w) Pz hff S1 (nb hz) hu
 refine a6 dJ (hn _ _ _ _ _ M ν h (.refl hc.mem) ?_)
 simp only[VR]
 exact⟨b,off+f.offset,hvv,hb,hM,_,by rw[hfo];exact p6.sub of υ'.size,hf.rd hr⟩
theorem V.agg{τ:Ty}(ha:τ.isAgg=true){v:Value}{x:τ.den}(h:V w M τ v x): ∃cs,v= .agg cs∧Rd w M τ cs.toList x:=by
 unfold V at h;rw[aj ha]at h;exact h
theorem Dh.agg{τ:Ty}{x:τ.den}{n:Nat}{υ:Ty}{y:υ.den}{o:Nat}(h:Dh τ x n υ y o):τ.isAgg=true:=by cases h<;>rfl
theorem Vm(hE:EnvTy P E)(hc:Core c σ a.tmps w M ν){t:TypeId}{x:Operand}{n:Nat}(ho:o.op= .field t x n){K:jf α}{τ:Ty}(ht:E.ty t=some τ){υ:Ty}{z:υ.den}(hx:σ.ρ x= .val υ z)
  (h:nu υ τ (xY υ z n fun υ y=>K (.val υ y) [] [])=some r) (hn:gi c σ a o w M ν K r next):o.wp P a w next Q:=by
 obtain⟨he,h1⟩:=fY h
 subst he
 obtain⟨υ',y,of,hf,h⟩:=tP h1
 have hv:=hc.ev x
 rw[hx]at hv
 simp only[VR]at hv
 obtain⟨cs,hu,hr⟩:=hv.agg hf.agg
 obtain⟨fs,f,Pz,hff,hfo,S1⟩:=(hE.ty t υ ht).kH hf
 have eZ:=hf.rd hr
 refine a6 (JJ ho Pz hff S1 hu (by rw[hfo];exact eZ)) (hn _ _ _ _ _ M ν h (.refl hc.mem) ?_)
 simp only[VR]
 rw[hfo]
 exact V.cI eZ
theorem JM(hE:EnvTy P E)(hc:Core c σ a.tmps w M ν){t:TypeId}{x i:Operand}(ho:o.op= .indexAddr t x i){K:jf α}{τ:Ty}(ht:E.ty t=some τ)
  (h:gJ τ (σ.ρ x) (σ.ρ i) σ.H K=some r) (hn:gi c σ a o w M ν K r next):o.wp P a w next Q:=by
 unfold gJ at h
 obtain⟨k,n,hi,h2⟩:=nA h
 clear h
 have h:=h2
 clear h2
 have RC:=hc.ev i
 rw[hi]at RC
 have RC:=RC.int
 have hv:=hc.ev x
 have zW:=hE.ty t τ ht
 split at h
 ·
  rename_i e
  obtain⟨e',Pz,hle⟩:=zW.slice
  split at h
  ·rename_i υ l hx
   obtain⟨e1,h⟩:=bC h
   subst e1
   obtain⟨m4,h⟩:=cB h
   obtain⟨h0,h1⟩:=uT m4
   have h1:n<(List.length l:Int):=h1
   rw[hx]at hv
   simp only[VR]at hv
   have hv:=V.slice.1 hv
   simp only[Rd,fv,ec]at hv
   obtain⟨ad,cap,hu,alX,hr⟩:=hv
   obtain⟨b,off,rfl,hb,hM,cs,p6,lh⟩:=hr n.toNat ω
   refine a6 (lq ho Pz hle hu RC h0 h1) (hn _ _ _ _ _ M ν h (.refl hc.mem) ?_)
   simp only[VR]
   refine⟨b,_,rfl,hb,hM,cs,p6,?_⟩
   have:Rd w M e cs (List.getD l n.toNat e.zero):=by rw[kP l n.toNat e.zero ω];exact lh
   exact this
  ·rename_i id hx
   rw[hx]at hv
   simp only[VR]at hv
   obtain⟨_,hu⟩:=hv
   split at h
   ·rename_i e2 l bm
    obtain⟨he_,h_⟩:=fY h
    clear h
    subst he_
    have h:=h_
    clear h_
    obtain⟨m4,h⟩:=cB h
    obtain⟨h0,h1⟩:=uT m4
    have mS:=hc.mem.ln id _ bm
    simp only[ER]at mS
    rcases mS with⟨rfl,_⟩|⟨b,cs,te,cap,hb,hg,hM,UU,hl,Hc,hs,hr⟩
    ·simp at h1;omega
    ·rw[hb]at hu
     refine a6 (lq ho Pz hle hu RC h0 h1) (hn _ _ _ _ _ M ν h (.refl hc.mem) ?_)
     simp only[VR]
     refine⟨_,bm,?_⟩
     simp only[AR]
     exact⟨n.toNat,[],rfl,ω,trivial,b,_,_,hb,by simp[cC]⟩
   ·rename_i e2 l bm
    obtain⟨he_,h_⟩:=fY h
    clear h
    subst he_
    have h:=h_
    clear h_
    obtain⟨m4,h⟩:=cB h
    obtain⟨h0,h1⟩:=uT m4
    have mS:=hc.mem.ln id _ bm
    simp only[ER]at mS
    obtain⟨lh,hhd⟩:=mS
    simp only[Rd,fv,ec]at lh
    obtain⟨ad,cap,hb,alX,hr⟩:=lh
    rcases hhd with⟨rfl,_⟩|⟨b,n2,c2,tU⟩
    ·simp at h1;omega
    ·rw[hb]at tU;cases tU
     rw[hb]at hu
     refine a6 (lq ho Pz hle hu RC h0 h1) (hn _ _ _ _ _ M ν h (.refl hc.mem) ?_)
     simp only[VR]
     refine⟨_,bm,?_⟩
     simp only[AR]
     exact⟨n.toNat,[],rfl,ω,trivial,b,_,_,hb,by simp[cC]⟩
   ·cases h
  ·cases h
 ·
  rename_i len e
  obtain⟨e',Pz,hle⟩:=zW.arr
  split at h
  ·rename_i id p hx
   obtain⟨en,υ,bm,het,h⟩:=E4 h
   obtain⟨he_,h_⟩:=fY h
   clear h
   subst he_
   have h:=h_
   clear h_
   obtain⟨m4,h⟩:=cB h
   obtain⟨h0,h1⟩:=uT m4
   rw[hx]at hv
   simp only[VR]at hv
   obtain⟨en',wF,oc⟩:=hv
   rw[bm]at wF;cases wF
   obtain⟨b,off,hu,ag0⟩:=oc.step het (.idx n.toNat) ⟨⟨len,e,rfl,ω⟩,trivial⟩
   refine a6 (sI ho Pz hle hu RC h0 h1) (hn _ _ _ _ _ M ν h (.refl hc.mem) ?_)
   simp only[VR]
   refine⟨en,bm,?_⟩
   simpa [cC,elT]using ag0
  ·rename_i υ l hx
   obtain⟨e1,h⟩:=bC h
   subst e1
   obtain⟨m4,h⟩:=cB h
   obtain⟨h0,h1⟩:=uT m4
   rw[hx]at hv
   simp only[VR]at hv
   obtain⟨b,off,hu,hb,hM,cs,p6,hr⟩:=hv
   refine a6 (sI ho Pz hle hu RC h0 h1) (hn _ _ _ _ _ M ν h (.refl hc.mem) ?_)
   simp only[VR]
   exact⟨b,_,rfl,hb,hM,_,p6.sub _ e.size,hr.idx ω⟩
  ·cases h
 ·cases h
theorem Dp(hc:Core c σ a.tmps w M ν){x:Operand}(ho:o.op= .nilCheck x){K:jf α}{id:Nat}{p:List Step}(hx:σ.ρ x= .jr id p)
  (h:K (.jr id p) [] []=some r) (hn:gi c σ a o w M ν K r next):o.wp P a w next Q:=by
 have hv:=hc.ev x
 have Vn:=hv
 rw[hx]at hv
 simp only[VR]at hv
 obtain⟨e,he,oc⟩:=hv
 obtain⟨ad,hu⟩:=oc.ptr
 refine a6 (vF ho hu) (hn _ _ _ _ _ M ν h (.refl hc.mem) ?_)
 rw[←hu,←hx];exact Vn
theorem Bq(hc:Core c σ a.tmps w M ν){x:Operand}(ho:o.op= .nilCheck x){K:jf α}{τ:Ty}{z:τ.den}(hx:σ.ρ x= .qW τ z)
  (h:K (.qW τ z) [] []=some r) (hn:gi c σ a o w M ν K r next):o.wp P a w next Q:=by
 have hv:=hc.ev x
 have Vn:=hv
 rw[hx]at hv
 simp only[VR]at hv
 obtain⟨b,off,hu,_⟩:=hv
 refine a6 (vF ho hu) (hn _ _ _ _ _ M ν h (.refl hc.mem) ?_)
 rw[←hu,←hx];exact Vn
theorem ju.get{H:Nat→Option bh}: ∀{p5:List bD} {vs:List Value},ju w M H ν p5 vs→ ∀{i:Nat} {x:bD},p5[i]? =some x→ ∃v,vs[i]? =some v∧VR w M H ν x v
 |[],_,_,i,x,hx=>by simp at hx
 |y::p5,[],h,_,_,_=>by simp[ju]at h
 |y::p5,v::vs,h,0,x,hx=>by
  simp only[ju]at h
  simp at hx;subst hx
  exact⟨v,rfl,h.1⟩
 |y::p5,v::vs,h,i+1,x,hx=>by
  simp only[ju]at h
  exact ju.get h.2 (by simpa using hx)
theorem PX(hc:Core c σ a.tmps w M ν){x:Operand}{i:Nat}(ho:o.op= .extract x i){K:jf α}{vs:List bD}{v:bD}(hx:σ.ρ x= .tup vs)(hi:vs[i]? =some v)
  (h:K v [] []=some r) (hn:gi c σ a o w M ν K r next):o.wp P a w next Q:=by
 have hv:=hc.ev x
 rw[hx]at hv
 simp only[VR]at hv
 obtain⟨us,hu,Zd⟩:=hv
 obtain⟨u,hui,hvu⟩:=Zd.get hi
 exact a6 (EW ho hu hui) (hn _ _ _ _ _ M ν h (.refl hc.mem) hvu)
theorem Core.evs(hc:Core c σ a.tmps w M ν): ∀xs:List Operand,ju w M σ.H ν (xs.map σ.ρ) (xs.map a.eval)
 |[]=>by simp[ju]
 |x::xs=>by simp only[bR,ju];exact⟨hc.ev x,hc.evs xs⟩
theorem wK: ∀{p5:List bD} {vs:List Value} {H:Nat→Option bh} {M:Nat→Prop} {K:List bD→List Nat→ja→Option α},Mem c H w M ν→ju w M H ν p5 vs→wB H p5 K=some r→
  ∃cs rd ups M',K cs rd ups=some r∧Tr c H w M ν (cY H ups) w M' ν∧ju w M' (cY H ups) ν cs vs
 |[],vs,H,M,K,hm,hv,h=>⟨[],[],[],M,h,.refl hm,hv⟩
 |x::xs,[],H,M,K,hm,hv,h=>by simp[ju]at hv
 |x::xs,v::vs,H,M,K,hm,hv,h=>by
  simp only[ju]at hv
  unfold wB at h
  split at h
  ·rename_i id
   split at h
   ·rename_i τ z bm
    obtain⟨M1,b,ht,hb,fA,hM,sH,p6,lh⟩:=Tr.fix hm bm
    obtain⟨cs,rd,ups,M2,hK,YG,Ze⟩:=wK ht.mem (ju.cc ht.cc ht.goes hv.2) h
    refine⟨_,_,_,M2,hK,ht.trans YG,?_⟩
    have h1:VR w M1 (bT H id (some .gone)) ν (.qW τ z) v:=by
     have Md:=hv.1
     simp only[VR]at Md ⊢
     obtain⟨e,he,oc⟩:=Md
     rw[bm]at he;cases he
     simp only[AR]at oc
     obtain⟨_,b',ff,Md⟩:=oc
     rw[hb]at ff;cases ff
     exact⟨b,0,Md,fA,hM,sH,p6,lh⟩
    simp only[ju]
    exact⟨VR.cc YG.cc YG.goes h1,Ze⟩
   ·cases h
  ·obtain⟨cs,rd,ups,M2,hK,YG,Ze⟩:=wK hm hv.2 h
   refine⟨_,_,_,M2,hK,YG,?_⟩
   simp only[ju]
   exact⟨VR.cc YG.cc YG.goes hv.1,Ze⟩
theorem Me(hc:Core c σ a.tmps w M ν){f:FuncId}{first caps:Array Operand}(ho:o.op= .makeFunc (.func f) first caps){K:jf α}
  (h:cond first.isEmpty (wB σ.H (caps.toList.map σ.ρ) λcs rd ups=>K (.LR f cs) rd ups) none=some r) (hn:gi c σ a o w M ν K r next):o.wp P a w next Q:=by
 obtain⟨hf,h⟩:=cB h
 obtain⟨cs,rd,ups,M',hK,ht,hv⟩:=wK hc.mem (hc.evs _) h
 refine a6 (Dj ho (by simpa using hf)) (hn _ _ _ _ _ M' ν hK ht ?_)
 simp only[VR]
 exact⟨caps.toList.map a.eval,by congr 1;apply js;simp,hv⟩
theorem PY(hE:EnvTy P E)(hc:Core c σ a.tmps w M ν){s d:TypeId}{x:Operand}(ho:o.op= .convert s d x){K:jf α}{τ:Ty}{k:IntKind}(hs:E.ty s=some τ)(hd:E.ty d=some (.int k))
  (h:wy (σ.ρ x) (λ_ n=>K (.val (.int k) (W k n)) [] [])=some r) (hn:gi c σ a o w M ν K r next):o.wp P a w next Q:=by
 obtain⟨k',n,hx,h⟩:=nA h
 have hv:=hc.ev x
 rw[hx]at hv
 refine a6 (EX ho (hE.ty s τ hs).isSome (hE.ty d _ hd).int hv.int) (hn _ _ _ _ _ M ν h (.refl hc.mem) ?_)
 rw[De];exact .mkInt k _
end VM
end
section
namespace VM
open Go
variable{P:Program}{E:Env}{o:Oper}{a:Act}{w:World}{M:Nat→Prop}{ν:Nat→Value}{σ:St}{c:Ctx}{α:Type}{r:α}{next:Act→World→Prop}{Q:Exit→Act→World→Prop}
theorem S2{b:BinOp}{k k':IntKind}{x y:Int}{t:TypeId}{K:bD→Option α}(h:Y3 b k x y K=some r):
  ∃z,K (.val (.int k) z)=some r∧(binOp b t (.int k x) (.int k' y)).run P w= .ok (.int k z) w:=by
 unfold Y3 at h
 split at h
 ·obtain⟨h0,h⟩:=mH h
  rw[om]at h0
  have h0: ¬y<0:=by simpa using h0
  refine⟨_,h,?_⟩
  rw[De,Va]
  simp[binOp,Op.shift,h0]
 ·obtain⟨h0,h⟩:=mH h
  rw[om]at h0
  have h0: ¬y<0:=by simpa using h0
  refine⟨_,h,?_⟩
  rw[PQ]
  simp[binOp,Op.shift,h0]
 ·cases h
theorem JN{b:BinOp}{k:IntKind}{x y:Int}{t:TypeId}{K:bD→Option α}(h:uP b k x y K=some r):
  ∃v u,K v=some r∧(binOp b t (.int k x) (.int k y)).run P w= .ok u w∧ ∀H,VR w M H ν v u:=by
 unfold uP at h
 split at h
 ·exact⟨_,_,h,by simp[binOp,Op.intArith,De],λH=> .mkInt _ _⟩
 ·exact⟨_,_,h,by simp[binOp,Op.intArith,De],λH=> .mkInt _ _⟩
 ·exact⟨_,_,h,by simp[binOp,Op.intArith,De],λH=> .mkInt _ _⟩
 ·obtain⟨h0,h⟩:=mH h
  rw[jB]at h0
  have h0: ¬y=0:=by simpa using h0
  exact⟨_,_,h,by simp[binOp,Op.intDiv,De,Jy,h0],λH=> .mkInt _ _⟩
 ·obtain⟨h0,h⟩:=mH h
  rw[jB]at h0
  have h0: ¬y=0:=by simpa using h0
  exact⟨_,_,h,by simp[binOp,Op.intDiv,U9,h0],λH=> .mkInt _ _⟩
 ·exact⟨_,_,h,by simp[binOp,Op.intBits,uO],λH=> .mkInt _ _⟩
 ·exact⟨_,_,h,by simp[binOp,Op.intBits,uO],λH=> .mkInt _ _⟩
 ·exact⟨_,_,h,by simp[binOp,Op.intBits,uO],λH=> .mkInt _ _⟩
 ·exact⟨_,_,h,by simp[binOp,Op.intBits,uO],λH=> .mkInt _ _⟩
 ·exact⟨_,.bool (decide (x=y)),h,by simp[binOp,Op.intCmp];rfl,λH=>by rw[jB];exact .uS _⟩
 ·exact⟨_,.bool (!decide (x=y)),h,by simp[binOp,Op.intCmp];rfl,λH=>by rw[jB];exact .uS _⟩
 ·exact⟨_,_,h,by simp[binOp,Op.intCmp,om],λH=> .uS _⟩
 ·exact⟨_,_,h,by simp[binOp,Op.intCmp,oq],λH=> .uS _⟩
 ·exact⟨_,_,h,by simp[binOp,Op.intCmp,om],λH=> .uS _⟩
 ·exact⟨_,_,h,by simp[binOp,Op.intCmp,oq],λH=> .uS _⟩
 ·cases h
theorem S3{t:Option Ty}{op:BinOp}{τ:Ty}{x:τ.den}{υ:Ty}{y:υ.den}{K:bD→Option α}(h:EP t op τ x υ y K=some r):
  (∃(k k':IntKind) (m n:Int),bD.val τ x= .val (.int k) m∧bD.val υ y= .val (.int k') n∧(cond (Y4 op) (Y3 op k m n K) (if k=k' then uP op k m n K else none))=some r)∨
  (∃z:τ.den,bD.val υ y= .val τ z∧t=some τ∧τ.comparable=true∧((op= .eql∧K (.val .bool (oR τ x z))=some r)∨(op= .neq∧K (.val .bool (!oR τ x z))=some r))):=by
 unfold EP at h
 split at h
 ·exact .inl ⟨_,_,_,_,rfl,rfl,h⟩
 ·right
  split at h
  ·cases h
  ·obtain⟨e,h1⟩:=fY h
   clear h
   subst e
   obtain⟨hc,h⟩:=cB h1
   clear h1
   split at h
   ·obtain⟨e,h1⟩:=bC h
    subst e
    exact⟨_,rfl,rfl,hc,.inl ⟨rfl,h1⟩⟩
   ·obtain⟨e,h1⟩:=bC h
    subst e
    exact⟨_,rfl,rfl,hc,.inr ⟨rfl,h1⟩⟩
   ·cases h
theorem Ct{t:TypeId}(hu:P.underlying t=some .bool)(x y:Bool)(w:World):(Op.equal t (.bool x) (.bool y)).run P w= .ok (x==y) w:=by
 unfold Op.equal
 obtain⟨n,hn⟩: ∃n,Op.maxDepth=n+1:=⟨9999,rfl⟩
 rw[hn]
 simp[Op.equalIn,run_underlying hu]
theorem run_eql_bool{t:TypeId}(hu:P.underlying t=some .bool)(x y:Bool):(binOp .eql t (.bool x) (.bool y)).run P w= .ok (.bool (x==y)) w:=by
 simp[binOp,Ct hu]
theorem run_neq_bool{t:TypeId}(hu:P.underlying t=some .bool)(x y:Bool):(binOp .neq t (.bool x) (.bool y)).run P w= .ok (.bool (!(x==y))) w:=by
 simp[binOp,Ct hu]
theorem alZ(x y:ByteArray):(x.toList==y.toList)=decide (x.toList=y.toList):=by
 rw[o4];simp
theorem Mf{t:TypeId}(x y:ByteArray):(binOp .eql t (.string x) (.string y)).run P w= .ok (.bool (decide (x.toList=y.toList))) w:=by
 simp[binOp,Op.stringOp,alZ]
theorem Mg{t:TypeId}(x y:ByteArray):(binOp .neq t (.string x) (.string y)).run P w= .ok (.bool (!decide (x.toList=y.toList))) w:=by
 simp[binOp,Op.stringOp,alZ]
theorem Vo(hE:EnvTy P E)(hc:Core c σ a.tmps w M ν){b:BinOp}{t t':TypeId}{x y:Operand}(ho:o.op= .binOp b t x y t'){K:jf α}
  (h:LV (σ.ρ x) (fun τ x=>LV (σ.ρ y) fun υ y=>EP (E.ty t) b τ x υ y λv=>K v [] [])=some r) (hn:gi c σ a o w M ν K r next):o.wp P a w next Q:=by
 have hx:=hc.ev x
 have hy:=hc.ev y
 unfold LV at h
 split at h
 ·rename_i τ x' Zf
  split at h
  ·rename_i υ y' hye
   rw[Zf]at hx;rw[hye]at hy
   rcases S3 h with⟨k,k',m,n,e1,e2,h1⟩|⟨z,e2,ht,D1,h1⟩
   ·rw[e1]at hx;rw[e2]at hy
    have hx:=hx.int
    have hy:=hy.int
    cases hs:Y4 b
    ·rw[hs]at h1
     replace h1:(if k=k' then uP b k m n (λv=>K v [] [])else none)=some r:=h1
     split at h1
     ·rename_i hk;subst hk
      obtain⟨v,u,hK,dJ,hVR⟩:=JN (P:=P) (w:=w) (M:=M) (ν:=ν) (t:=t) h1
      exact a6 (p7 ho (by rw[hx,hy];exact pJ w) (by rw[hx,hy];exact dJ)) (hn _ [] [] _ _ _ _ hK (.refl hc.mem) (hVR _))
     ·cases h1
    ·rw[hs]at h1
     replace h1:Y3 b k m n (λv=>K v [] [])=some r:=h1
     obtain⟨z,hK,dJ⟩:=S2 (P:=P) (w:=w) (k':=k') (t:=t) h1
     exact a6 (p7 ho (by rw[hx,hy];exact pJ w) (by rw[hx,hy];exact dJ)) (hn _ [] [] _ _ _ _ hK (.refl hc.mem) (.mkInt _ _))
   ·rw[e2]at hy
    have key:(eqGuard b t x y (a.eval x) (a.eval y)).run P w= .ok () w∧(binOp .eql t (a.eval x) (a.eval y)).run P w= .ok (.bool (oR τ x' z)) w∧(binOp .neq t (a.eval x) (a.eval y)).run P w= .ok (.bool (!oR τ x' z)) w:=by
     by_cases L4:τ.isAgg=true
     ·simp only[VR]at hx hy
      exact hE.eq t τ ht D1 L4 w M _ _ _ _ b x y hx hy
     ·have hl:=hE.ty t τ ht
      cases τ with
      |int k=>
       rw[hx.int,hy.int]
       refine⟨pJ w,?_,?_⟩
       ·simp[binOp,Op.intCmp,oR,jB];rfl
       ·simp[binOp,Op.intCmp,oR,jB];rfl
      |bool=>rw[hx.bool,hy.bool];exact⟨Bn w,run_eql_bool hl.bool _ _,run_neq_bool hl.bool _ _⟩
      |str=>rw[hx.str,hy.str];exact⟨Dl w,by rw[Mf];simp[oR,EO],by rw[Mg];simp[oR,EO]⟩
      |slice e=>simp[Ty.comparable]at D1
      |unit=>simp[Ty.isAgg]at L4
      |pair _ _=>simp[Ty.isAgg]at L4
      |arr _ _=>simp[Ty.isAgg]at L4
    obtain⟨hg,h2,h3⟩:=key
    rcases h1 with⟨rfl,hK⟩|⟨rfl,hK⟩
    ·exact a6 (p7 ho hg h2) (hn _ [] [] _ _ _ _ hK (.refl hc.mem) (.uS _))
    ·exact a6 (p7 ho hg h3) (hn _ [] [] _ _ _ _ hK (.refl hc.mem) (.uS _))
  ·cases h
 ·cases h
theorem Zg(hc:Core c σ a.tmps w M ν){u:UnOp}{t:TypeId}{x:Operand}(ho:o.op= .unOp u t x){K:jf α}
  (h:SO u (σ.ρ x) (λv=>K v [] [])=some r) (hn:gi c σ a o w M ν K r next):o.wp P a w next Q:=by
 have hx:=hc.ev x
 unfold SO at h
 split at h
 ·rename_i k n Zf
  rw[Zf]at hx
  refine a6 (wH ho (v:= .int k (k.wrap (0-n))) ?_) (hn _ [] [] _ _ _ _ h (.refl hc.mem) (by rw[De];exact .mkInt _ _))
  rw[hx.int];simp[Op.unary,Op.intArith]
 ·rename_i k n Zf
  rw[Zf]at hx
  refine a6 (wH ho (v:= .int k (mR .xor k (if k.signed then-1 else k.max) n)) ?_) (hn _ [] [] _ _ _ _ h (.refl hc.mem) (.mkInt _ _))
  rw[hx.int,uO];simp[Op.unary,Op.intBits]
 ·rename_i b Zf
  rw[Zf]at hx
  refine a6 (wH ho (v:= .bool (!b)) ?_) (hn _ [] [] _ _ _ _ h (.refl hc.mem) (.uS _))
  rw[hx.bool];simp[Op.unary]
 ·cases h
end VM
end
section
namespace VM
open Go
variable{P:Program}{E:Env}{o:Oper}{a:Act}{w:World}{M:Nat→Prop}{ν:Nat→Value}{σ:St}{c:Ctx}{α:Type}{r:α}{next:Act→World→Prop}{Q:Exit→Act→World→Prop}
theorem ow{args:Array Operand}{ts:Array TypeId}{t:TypeId}{x:Operand}{n:Nat}(ho:o.op= .call {callee:= .builtin .len,args,argTypes:=ts})(ha:args.toList=[x])(_ht:ts.toList.head?=some t)
  (hl: ∀ty,(Builtin.len_ ts ty #[a.eval x]).run P w= .ok (goInt n) w):(execOp a.eval o).run P w= .ok (.value (.int .i64 n)) w:=by
 obtain⟨cs,hr⟩:=q4 (P:=P) (ρ:=a.eval) ho (w:=w)
 rw[hr]
 have:args.map a.eval= #[a.eval x]:=by apply js;simp[ha]
 rw[this]
 simp[builtin,hl,goInt]
theorem Zh{ts:Array TypeId}{t ty:TypeId}(ht:ts[0]? =some t)(hu:P.underlying t=some .string)(s:ByteArray):(Builtin.len_ ts ty #[.string s]).run P w= .ok (goInt s.size) w:=by
 simp[Builtin.len_,ht,run_underlying hu]
theorem Zi{ts:Array TypeId}{t ty e:TypeId}{n:Nat}(ht:ts[0]? =some t)(hu:P.underlying t=some (.array n e))(v:Value):(Builtin.len_ ts ty #[v]).run P w= .ok (goInt n) w:=by
 simp[Builtin.len_,ht,run_underlying hu]
theorem xx{ts:Array TypeId}{t ty e:TypeId}(ht:ts[0]? =some t)(hu:P.underlying t=some (.slice e))(ad:Option Addr)(n cp:Nat):(Builtin.len_ ts ty #[.slice ad n cp]).run P w= .ok (goInt n) w:=by
 simp[Builtin.len_,ht,run_underlying hu]
theorem ER.Vp{e:Ty}{l:List e.den}{v:Value}(h:ER w M v (.own e l)): ∃ad cp,v= .slice ad l.length cp:=by
 simp only[ER]at h
 rcases h with⟨rfl,a,hv⟩|⟨b,cs,t,cap,hv,_⟩
 ·exact⟨a,0,hv⟩
 ·exact⟨_,cap,hv⟩
theorem ER.Vq{e:Ty}{l:List e.den}{v:Value}(h:ER w M v (.oS e l)): ∃ad cp,v= .slice ad l.length cp:=by
 simp only[ER]at h
 have h:=h.1
 simp only[Rd,fv,ec]at h
 obtain⟨a,cap,hv,_⟩:=h
 exact⟨a,cap,hv⟩
theorem ag1(hE:EnvTy P E)(hc:Core c σ a.tmps w M ν){args:Array Operand}{ts:Array TypeId}{x:Operand}(ho:o.op= .call {callee:= .builtin .len,args,argTypes:=ts})(ha:args.toList=[x]){K:jf α}{τ:Ty}
  (ht:(ts.toList.head?).bind E.ty=some τ) (h:LW τ (σ.ρ x) σ.H K=some r) (hn:gi c σ a o w M ν K r next):o.wp P a w next Q:=by
 obtain⟨t,si,YG⟩:=tD.1 ht
 have Zj:ts[0]? =some t:=by rw[←si,←gY,List.head?_eq_getElem?]
 have hl:=hE.ty t τ YG
 have hv:=hc.ev x
 unfold LW at h
 split at h
 ·rename_i e e' l hx
  obtain⟨_,hu,_⟩:=hl.slice
  rw[hx]at hv
  simp only[VR]at hv
  have hv:=V.slice.1 hv
  simp only[Rd,fv,ec]at hv
  obtain⟨ad,cap,hv,_⟩:=hv
  refine a6 (ow ho ha si (n:=List.length l) λty=>by rw[hv];exact xx Zj hu _ _ _) (hn _ [] [] _ _ _ _ h (.refl hc.mem) (.mkInt _ _))
 ·rename_i n e n' e' l hx
  obtain⟨_,hu,_⟩:=hl.arr
  refine a6 (ow ho ha si (n:=n) λty=>Zi Zj hu _) (hn _ [] [] _ _ _ _ h (.refl hc.mem) (.mkInt _ _))
 ·rename_i s hx
  rw[hx]at hv
  refine a6 (ow ho ha si (n:=ByteArray.size s) λty=>by rw[hv.str];exact Zh Zj hl.str _) (hn _ [] [] _ _ _ _ h (.refl hc.mem) (.mkInt _ _))
 ·rename_i e hx
  obtain⟨_,hu,_⟩:=hl.slice
  rw[hx]at hv
  simp only[VR]at hv
  obtain⟨ad,hv⟩:=hv
  refine a6 (ow ho ha si (n:=0) λty=>by rw[hv];exact xx Zj hu _ _ _) (hn _ [] [] _ _ _ _ h (.refl hc.mem) (.mkInt _ _))
 ·rename_i e id hx
  obtain⟨_,hu,_⟩:=hl.slice
  rw[hx]at hv
  simp only[VR]at hv
  split at h
  ·rename_i e' l bm
   obtain⟨ad,cap,hh⟩:=(hc.mem.ln id _ bm).Vp
   refine a6 (ow ho ha si (n:=l.length) λty=>by rw[hv.2,hh];exact xx Zj hu _ _ _) (hn _ [id] [] _ _ _ _ h (.refl hc.mem) (.mkInt _ _))
  ·rename_i e' l bm
   obtain⟨ad,cap,hh⟩:=(hc.mem.ln id _ bm).Vq
   refine a6 (ow ho ha si (n:=l.length) λty=>by rw[hv.2,hh];exact xx Zj hu _ _ _) (hn _ [id] [] _ _ _ _ h (.refl hc.mem) (.mkInt _ _))
  ·cases h
 ·cases h
theorem Mh{H:Nat→Option bh}(up:Bool): ∀(xs:List bD) (x:bD) (v:Value) (vs:List Value) (K:bD→Option α),VR w M H ν x v→ju w M H ν xs vs→YD up x xs K=some r→
  ∃x' v',K x'=some r∧(vs.foldlM (if up then Builtin.max2 else Builtin.min2) v).run P w= .ok v' w∧VR w M H ν x' v'
 |[],x,v,[],K,hx,_,h=>⟨x,v,h,by simp,hx⟩
 |[],_,_,_::_,_,_,hs,_=>by simp[ju]at hs
 |_::_,_,_,[],_,_,hs,_=>by simp[ju]at hs
 |y::xs,x,v,u::vs,K,hx,hs,h=>by
  simp only[ju]at hs
  obtain⟨hy,hs⟩:=hs
  unfold YD at h
  obtain⟨k,m,e1,h1⟩:=nA h
  obtain⟨k',n,e2,h2⟩:=nA h1
  clear h h1
  split at h2
  ·rename_i hk
   subst hk
   rw[e1]at hx;rw[e2]at hy
   have hx:=hx.int
   have hy:=hy.int
   obtain⟨x',v',hK,dJ,hV⟩:=Mh up xs _ (.int k (cond up (mx m n) (mn m n))) vs K (.mkInt _ _) hs h2
   refine⟨x',v',hK,?_,hV⟩
   rw[List.foldlM_cons,Sem.run_bind]
   have:((if up then Builtin.max2 else Builtin.min2) v u).run P w= .ok (.int k (cond up (mx m n) (mn m n))) w:=by
    rw[hx,hy]
    cases up
    ·simp[Builtin.min2,Vb]
    ·simp[Builtin.max2,afx]
   rw[this]
   exact dJ
  ·cases h2
theorem afD(hc:Core c σ a.tmps w M ν)(up:Bool){args:Array Operand}{ts:Array TypeId}{x:Operand}{xs:List Operand}(ho:o.op= .call {callee:= .builtin (if up then .max else .min),args,argTypes:=ts})(ha:args.toList=x::xs){K:jf α}
  (h:YD up (σ.ρ x) (xs.map σ.ρ) (λv=>K v [] [])=some r) (hn:gi c σ a o w M ν K r next):o.wp P a w next Q:=by
 obtain⟨x',v',hK,dJ,hV⟩:=Mh (P:=P) up (xs.map σ.ρ) (σ.ρ x) (a.eval x) (xs.map a.eval) _ (hc.ev x) (hc.evs xs) h
 refine a6 ?_ (hn _ [] [] _ _ _ _ hK (.refl hc.mem) hV)
 obtain⟨cs,hr⟩:=q4 (P:=P) (ρ:=a.eval) ho (w:=w)
 rw[hr]
 have hm:(args.map a.eval).toList=a.eval x::xs.map a.eval:=by simp[ha]
 cases up
 ·simp only[jd,fa,builtin,Builtin.min_,hm,Sem.run_bind]at dJ ⊢
  rw[dJ];simp
 ·simp only[gH,builtin,Builtin.max_,hm,Sem.run_bind]at dJ ⊢
  rw[dJ];simp
theorem Hw{ρ:Operand→Value}{t:TypeId}{x i:Operand}(ho:o.op= .index t x i){k:IntKind}{n:Int}{s:ByteArray}
  (hu:P.underlying t=some .string) (hx:ρ x= .string s) (hi:ρ i= .int k n) (h0:0≤n) (h1:n<(s.size:Int)):
  (execOp ρ o).run P w= .ok (.value (.int .u8 ((s.data.getD n.toNat 0).toNat:Int))) w:=by
 have fA:n.toNat<s.size:=ω
 have hs:s[n.toNat]? =some (s[n.toNat]'fA):=by simp[fA]
 have he:s[n.toNat]'fA=s.data.getD n.toNat 0:=by
  have wL:n.toNat<s.data.size:=fA
  rw[Array.getD,dif_pos wL];rfl
 simp[execOp,ho,hx,hi,Instr.index,asIntOf,run_underlying hu,h0,hs,he]
theorem Vr(hE:EnvTy P E)(hc:Core c σ a.tmps w M ν){t:TypeId}{x i:Operand}(ho:o.op= .index t x i){K:jf α}{τ:Ty}(ht:E.ty t=some τ)
  (h:wC τ (σ.ρ x) (σ.ρ i) (λv=>K v [] [])=some r) (hn:gi c σ a o w M ν K r next):o.wp P a w next Q:=by
 unfold wC at h
 obtain⟨k,n,hi,h2⟩:=nA h
 clear h
 have h:=h2
 clear h2
 have RC:=hc.ev i
 rw[hi]at RC
 have RC:=RC.int
 have hv:=hc.ev x
 have zW:=hE.ty t τ ht
 split at h
 ·rename_i len e υ l hx
  obtain⟨e',Pz,hle⟩:=zW.arr
  obtain⟨e1,h⟩:=bC h
  subst e1
  obtain⟨m4,h⟩:=cB h
  obtain⟨h0,h1⟩:=uT m4
  rw[hx]at hv
  simp only[VR]at hv
  obtain⟨cs,hu,hr⟩:=hv.agg rfl
  have eZ:=hr.idx (i:=n.toNat) ω
  refine a6 (Hs ho Pz hle hu RC h0 h1 eZ) (hn _ [] [] _ _ _ _ h (.refl hc.mem) ?_)
  simp only[VR]
  exact V.cI eZ
 ·rename_i s hx
  obtain⟨m4,h⟩:=cB h
  obtain⟨h0,h1⟩:=uT m4
  rw[hx]at hv
  refine a6 (Hw ho zW.str hv.str RC h0 h1) (hn _ [] [] _ _ _ _ h (.refl hc.mem) (.mkInt _ _))
 ·cases h
theorem oU(τ:Ty):τ.dr.length=τ.size:=(Rd.zero default (λ_=>False) τ).length
theorem Dq{z:Array Value}{n i s:Nat}(hz:z.size=s)(hi:i*s+s≤n):((madeCells z n).toList.drop (i*s)).take s=z.toList:=by
 apply zw
 intro j
 rw[lZ]
 split
 ·rename_i hj
  rw[mc,gY,gY]
  simp only[madeCells,Array.getElem?_map]
  rw[Array.getElem?_range,aj ω]
  simp only[Option.map_some]
  have:(i*s+j)%z.size=j:=by rw[hz,zF,Nat.mul_add_mod,Nat.mod_eq_of_lt hj]
  rw[this,LB ω,getElem!_pos z j ω]
 ·rename_i hj
  rw[gY,LG ω]
theorem q5.made(w:World)(M:Nat→Prop)(e:Ty){n l:Nat}(h:l*e.size≤n):q5 w M e (madeCells (cI e e.dr).cells n).toList (List.replicate l e.zero):=by
 intro i hi
 rw[ck]at hi
 have:=eH (s:=e.size) hi
 rw[Dq (by rw[←bJ,g5,oU]) ω,g5,LH]
 exact Rd.zero w M e
theorem Br{ρ:Operand→Value}{t:TypeId}{x y:Operand}(ho:o.op= .makeSlice t x y){v:Value}{w':World}(h:(Instr.makeSlice t (ρ x) (ρ y)).run P w= .ok v w'):(execOp ρ o).run P w= .ok (.value v) w':=by
 simp[execOp,ho,h]
theorem JO(hE:EnvTy P E)(hc:Core c σ a.tmps w M ν){t:TypeId}{x y:Operand}(ho:o.op= .makeSlice t x y){K:jf α}{e:Ty}(ht:E.ty t=some (.slice e)){id:Nat}
  (h:wy (σ.ρ x) (λ_ l=>wy (σ.ρ y) λ_ c=>cond (gI l c)
   (qX σ.H id (.own e []) (K (.ref id) [id] [(id,some (.own e (List.replicate l.toNat e.zero)))])) none)=some r) (hn:gi c σ a o w M ν K r next):o.wp P a w next Q:=by
 obtain⟨k,l,hx,h1⟩:=nA h
 obtain⟨k',n,hy,h2⟩:=nA h1
 clear h h1
 obtain⟨hk,h⟩:=cB h2
 obtain⟨bm,h⟩:=lL h
 rw[HZ]at hk
 obtain⟨h0,h1,h3⟩:=bF hk
 simp only[yE]at h3
 obtain⟨e',hu,hle⟩:=(hE.ty t _ ht).slice
 obtain⟨i,hi,hs,hz,hb⟩:=hle.base
 have JP:=hc.ev x
 have Dn:=hc.ev y
 rw[hx]at JP;rw[hy]at Dn
 have ag2:(i.bytes:Int)*n≤281474976710656:=by
  have h4:(i.bytes:Int)≤2048:=ω
  have:(i.bytes:Int)*n≤2048*n:=uH h4 ω
  omega
 have dJ:=run_make (P:=P) w t e' i _ hu hi hz k k' l n h0 h1 ag2 ω
 have hlen:(List.replicate l.toNat e.zero).length=l.toNat:=ck
 have ix:=Tr.row hc.mem bm e' (e:=e) (cs:=madeCells (cI e e.dr).cells (n.toNat*i.size)) (l:=List.replicate l.toNat e.zero) (cap:=n.toNat) (by rw[hlen];omega) (by simp[maxLen];omega)
  (by rw[size_madeCells,hs]) (q5.made w M e (wk ω ω))
 refine a6 (Br ho (by rw[JP.int,Dn.int];exact dJ)) (hn _ _ _ _ _ _ _ h ix ?_)
 simp only[VR]
 exact⟨by show bT σ.H id _ id≠none;rw[ay];simp,by simp[dp]⟩
end VM
end
