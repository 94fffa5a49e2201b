/- A part of the proof of WindTwice of layer 21: a machine that reads a function of the program as an equation between values. -/
import Derived.Test.YtecmobijochjkaaGreatVm1
set_option linter.all false
section
namespace VM
open Go
variable{P:Program}{E:Env}{o:Oper}{a:Act}{w:World}{M:Nat→Prop}{ν:Nat→Value}{σ:St}{c:Ctx}{α:Type}{r:α}{next:Act→World→Prop}{Q:Exit→Act→World→Prop}
theorem a8{v:Value}{w':World}(h:(execOp a.eval o).run P w= .ok (.value v) w')(hn:next (a.put o.dst v) w'):o.wp P a w next Q:=by
 unfold Oper.wp Oper.upon;rw[h];exact hn
theorem qT{w':World}(h:(execOp a.eval o).run P w= .ok .skip w')(hn:next (a.put o.dst undef) w'):o.wp P a w next Q:=by
 unfold Oper.wp Oper.upon;rw[h];exact hn
def ga(c:Ctx)(σ:St)(a:Act)(o:Oper)(w:World)(M:Nat→Prop)(ν:Nat→Value)(K:ja α)(r:α)(next:Act→World→Prop):Prop:=
 ∀v rd ups v' w' M' ν',K v rd ups=some r→Tr c σ.H w M ν (c4 σ.H ups) w' M' ν'→VR w' M' (c4 σ.H ups) ν' v v'→next (a.put o.dst v') w'
theorem Core.ev(h:Core c σ a.tmps w M ν)(x:Operand):VR w M σ.H ν (σ.ρ x) (a.eval x):=h.op a.defers x
theorem m9{x:bC}{k:IntKind→Int→Option α}(h:vS x k=some r): ∃(i:IntKind) (n:Int),x= .val (.int i) n∧k i n=some r:=by
 unfold vS at h
 split at h
 ·exact⟨_,_,rfl,h⟩
 ·cases h
theorem VR.int{H:Nat→Option bl}{k:IntKind}{n:Int}{v:Value}(h:VR w M H ν (.val (.int k) n) v):v= .int k n:=by
 simp only[VR,V,Ty.isAgg,iW,eT,Rd,fh,eS]at h;exact h
theorem VR.bool{H:Nat→Option bl}{b:Bool}{v:Value}(h:VR w M H ν (.val .bool b) v):v= .bool b:=by
 simp only[VR,V,Ty.isAgg,iW,eT,Rd,fh,eS]at h;exact h
theorem VR.str{H:Nat→Option bl}{b:ByteArray}{v:Value}(h:VR w M H ν (.val .str b) v):v= .string b:=by
 simp only[VR,V,Ty.isAgg,iW,eT,Rd,fh,eS]at h;exact h
theorem VR.mkInt{H:Nat→Option bl}(k:IntKind)(n:Int):VR w M H ν (.val (.int k) n) (.int k n):=by simp[VR,V,Ty.isAgg,Rd]
theorem VR.uc{H:Nat→Option bl}(b:Bool):VR w M H ν (.val .bool b) (.bool b):=by simp[VR,V,Ty.isAgg,Rd]
theorem VR.mkStr{H:Nat→Option bl}(b:ByteArray):VR w M H ν (.val .str b) (.string b):=by simp[VR,V,Ty.isAgg,Rd]
theorem Rz(hc:Core c σ a.tmps w M ν){x:Operand}(ho:o.op= .move x∨o.op= .assign x){K:ja α}(h:K (σ.ρ x) [] []=some r)(hn:ga c σ a o w M ν K r next):o.wp P a w next Q:=by
 have hr:(execOp a.eval o).run P w= .ok (.value (a.eval x)) w:=by
  rcases ho with ho|ho
  ·simp[execOp,ho]
  ·simp[execOp,ho]
 exact a8 hr (hn _ _ _ _ _ _ _ h (.refl hc.mem) (hc.ev x))
theorem Zr(hc:Core c σ a.tmps w M ν){x y z:Operand}(ho:o.op= .pick x y z){K:ja α}{t:Bool}(hx:σ.ρ x= .val .bool t)(h:cond t (K (σ.ρ y) [] []) (K (σ.ρ z) [] [])=some r)
  (hn:ga c σ a o w M ν K r next):o.wp P a w next Q:=by
 have hv:=hc.ev x
 rw[hx]at hv
 refine a8 (Mk ho hv.bool) ?_
 cases t
 ·exact hn _ _ _ _ _ _ _ h (.refl hc.mem) (hc.ev z)
 ·exact hn _ _ _ _ _ _ _ h (.refl hc.mem) (hc.ev y)
theorem ll{H:Nat→Option bl}{id:Nat}{e:bl}{K:Option α}(h:qN H id e K=some r):H id=none∧K=some r:=by
 unfold qN at h
 split at h
 ·rename_i h';exact⟨h',h⟩
 ·cases h
theorem VR.afU{H:Nat→Option bl}{id:Nat}{τ:Ty}{x:τ.den}{b:Nat}(bf:H id=some (.obj τ x))(hν:ν id= .pointer (some ⟨b,0,none⟩)):VR w M H ν (.jo id []) (.pointer (some ⟨b,0,none⟩)):=by
 simp only[VR]
 exact⟨_,bf,trivial,b,hν,rfl⟩
theorem VR.Vx{H:Nat→Option bl}{id:Nat}{τ:Ty}{x:τ.den}{q:List Step}{j b:Nat}(bf:H id=some (.gd τ x q j))(hν:ν id= .pointer (some ⟨b,0,none⟩)):VR w M H ν (.jo id []) (.pointer (some ⟨b,0,none⟩)):=by
 simp only[VR]
 exact⟨_,bf,trivial,b,hν,rfl⟩
theorem gT(τ:Ty):(cK τ τ.dj).cells.toList=τ.dj:=Hc (Rd.zero default (λ_=>False) τ)
theorem Ml: ∀{τ:Ty} {n:Nat} {a:Ty},JH τ n=some a→ ∃l m,τ.dj=l++(a.dj++m)∧l.length=rO τ n:=by
 intro τ
 induction τ with
 |pair a b _ Vw=>
  intro n c h
  cases n with
  |zero=>cases h;exact⟨[],b.dj,rfl,rfl⟩
  |succ n=>
   obtain⟨l,m,h1,h2⟩:=Vw (n:=n) (a:=c) h
   refine⟨a.dj++l,m,by simp only[Ty.dj];rw[h1,br],?_⟩
   rw[aS,h2,(Rd.zero default (λ_=>False) a).length];rfl
 |_=>intro n c h;simp[JH]at h
theorem zP: ∀{p:List Step} {τ υ:Ty},gN p τ υ=true→ ∃l m,τ.dj=l++(υ.dj++m)∧l.length=cF p τ
 |[],τ,υ,h=>by
  have h:=bx h
  subst h
  exact⟨[],[],by simp,rfl⟩
 | .kE n::p,τ,υ,h=>by
  unfold gN at h
  split at h
  ·rename_i a ha
   obtain⟨l,m,h1,h2⟩:=Ml ha
   obtain⟨l',m',h3,h4⟩:=zP h
   obtain⟨_,_,hf⟩:=tj ha τ.zero
   have:=hf.eq.1
   subst this
   refine⟨l++l',m'++m,by rw[h1,h3];simp,?_⟩
   rw[aS,h2,h4];rfl
  ·cases h
 | .idx _::_,_,_,h=>by simp[gN]at h
theorem H7{p:List Step}{τ e:Ty}(h:gN p τ (.slice e)=true):τ.dj[cF p τ]? =some (.slice none 0 0):=by
 obtain⟨l,m,h1,h2⟩:=zP h
 rw[h1,oG ω,h2,td];rfl
theorem cB{b:Bool}{K:Option α}(h:cond b K none=some r):b=true∧K=some r:=by
 cases b
 ·cases h
 ·exact⟨rfl,h⟩
theorem RA{τ:Ty}{q:List Step}{e:Ty}(h:lkT E τ=some (q,e)):gN q τ (.slice e)=true:=by
 unfold lkT at h
 split at h
 ·rename_i υ q' e' _ _
  cases hd:decide (υ=τ)<;>rw[hd]at h
  ·cases h
  ·simp only[ak]at h
   cases hp:gN q' τ (.slice e')<;>rw[hp]at h
   ·cases h
   ·cases h;exact hp
 ·cases h
theorem tu{τ:Ty}{id:Nat}{q:List Step}{e:Ty}(h:JJ E τ id=some (q,e)):gN q τ (.slice e)=true:=by
 unfold JJ at h
 split at h
 ·exact RA (cB h).2
 ·cases h
theorem EN{H:Nat→Option bl}{id:Nat}{τ:Ty}{x:τ.den}{q:List Step}{e:Ty}{K:ja α}(h:C6 H id τ x q e K=some r):H id=none∧H (id+1)=none∧K (.jo id []) [id,id+1] [(id,some (.gd τ x q (id+1))),(id+1,some (.own e []))]=some r:=by
 unfold C6 at h
 obtain⟨h1,h⟩:=ll h
 obtain⟨h2,h⟩:=ll h
 exact⟨h1,h2,h⟩
theorem Tb{H:Nat→Option bl}{i j:Nat}{u v:Option bl}(h:i≠j):bY (bY H i u) j v=bY (bY H j v) i u:=by
 funext k
 by_cases hi:k=i
 ·subst hi;rw[az _ _ h,ay,ay]
 ·by_cases hj:k=j
  ·subst hj;rw[ay,az _ _ hi,ay]
  ·rw[az _ _ hj,az _ _ hi,az _ _ hi,az _ _ hj]
theorem yE{H:Nat→Option bl}{i:Nat}{u v:Option bl}:bY (bY H i u) i v=bY H i v:=by
 funext k
 by_cases hi:k=i
 ·subst hi;rw[ay,ay]
 ·rw[az _ _ hi,az _ _ hi,az _ _ hi]
theorem Tr.Vy{H:Nat→Option bl}(h:Mem c H w M ν){id k:Nat}(hk:H k=none){τ:Ty}{x:τ.den}(bf:H id=some (.obj τ x)){b:Nat}{cs:Array Value}{t:TypeId}(hb:ν id= .pointer (some ⟨b,0,none⟩))(hg:w.heap[b]? =some (.cells cs t (0,0)))
  {q:List Step} {e:Ty} (hq:gN q τ (.slice e)=true) {ad:Option Addr} (hz:cs.toList[cF q τ]? =some (.slice ad 0 0)):
  Tr c H w M ν (c4 H [(id,some (.gd τ x q k)),(k,some (.own e []))]) w M (dh ν k (.slice ad 0 0)):=by
 have jB:k≠id:=λe=>by rw[e,bf]at hk;cases hk
 have h2:=Tr.nothing h hk e ad
 have hd2:bY H k (some (.own e [])) id=some (.obj τ x):=by rw[az _ _ (eJ jB)];exact bf
 have hν:dh ν k (.slice ad 0 0) id= .pointer (some ⟨b,0,none⟩):=by unfold dh;rw[ah (eJ jB)];exact hb
 have hν1:dh ν k (.slice ad 0 0) k= .slice ad 0 0:=by simp[dh]
 have he:=h2.mem.kZ id _ hd2
 simp only[ER]at he
 obtain⟨b',cs',t',eY,hg',hM,kV⟩:=he
 rw[hν]at eY;cases eY
 rw[hg]at hg';cases hg'
 have h3:=Tr.Hf h2.mem hd2 trivial (e':= .gd τ x q k) trivial rfl (λ_ _=>by simp) (by
   rw[hν];simp only[ER]
   exact⟨_,cs,t,cs.toList,.slice ad 0 0,rfl,hg,hM,kV,(Mh hz).symm,rfl,e,hq⟩)
  (fun τ' x' p' j' hl=>by
   cases hl
   refine⟨by rw[ay];simp,_,hν,?_⟩
   rw[hν1,cell_of hg,←gR];exact hz)
 rw[Tb (i:=k) (j:=id) jB]at h3
 exact h2.trans h3
theorem Tr.C6{H:Nat→Option bl}(h:Mem c H w M ν){id:Nat}(bf:H id=none)(px:H (id+1)=none)(t:TypeId){τ:Ty}{cs:Array Value}{x:τ.den}(hr:Rd w M τ cs.toList x){q:List Step}{e:Ty}(hq:gN q τ (.slice e)=true){ad:Option Addr}
  (hz:cs.toList[cF q τ]? =some (.slice ad 0 0)):
  ∃M' ν',Tr c H w M ν (c4 H [(id,some (.gd τ x q (id+1))),(id+1,some (.own e []))]) (w.alloc (.cells cs t)) M' ν'∧ν' id= .pointer (some ⟨w.heap.size,0,none⟩):=by
 have h1:=Tr.var h bf t hr
 have h2:=Tr.Vy h1.mem (id:=id) (k:=id+1) (by rw[az _ _ ω];exact px) (ay _ _ _) (by simp[dh]) (EJ w _) hq hz
 have e1:c4 (bY H id (some (.obj τ x))) [(id,some (.gd τ x q (id+1))),(id+1,some (.own e []))]=c4 H [(id,some (.gd τ x q (id+1))),(id+1,some (.own e []))]:=by
  show bY (bY (bY H id _) id _) (id+1) _=bY (bY H id _) (id+1) _
  rw[yE]
 rw[e1]at h2
 exact⟨_,_,h1.trans h2,by simp[dh]⟩
theorem Vz(hE:EnvTy P E)(hc:Core c σ a.tmps w M ν){t:TypeId}(ho:o.op= .alloc t){K:ja α}{τ:Ty}(ht:E.ty t=some τ){id:Nat}
  (h:(match JJ E τ id with
   |some (q,e)=>C6 σ.H id τ τ.zero q e K
   |none=>qN σ.H id (.obj τ τ.zero) (K (.jo id []) [id] [(id,some (.obj τ τ.zero))]))=some r) (hn:ga c σ a o w M ν K r next):o.wp P a w next Q:=by
 obtain⟨i,hi,hs,hz,_⟩:=(hE.ty t τ ht).base
 have hr:Rd w M τ (cK τ τ.dj).cells.toList τ.zero:=by rw[gT];exact Rd.zero w M τ
 split at h
 ·rename_i q e sS
  obtain⟨bf,px,h⟩:=EN h
  obtain⟨M',ν',il,hν⟩:=Tr.C6 hc.mem bf px t hr (tu sS) (by rw[gT];exact H7 (tu sS))
  refine a8 (zN ho hi hz w) (hn _ _ _ _ _ M' ν' h il ?_)
  exact VR.Vx (by show bY _ (id+1) _ id=_;rw[az _ _ ω,ay]) hν
 ·obtain⟨bf,h⟩:=ll h
  refine a8 (zN ho hi hz w) (hn _ _ _ _ _ _ _ h (Tr.var hc.mem bf t hr) (VR.afU (ay _ _ _) (by simp[dh])))
theorem RC(hE:EnvTy P E)(hc:Core c σ a.tmps w M ν){t:TypeId}{x:Operand}(ho:o.op= .box t x){K:ja α}{τ:Ty}{id:Nat}
  (h:lX true (σ.ρ x) σ.H τ (λy rd ups=>qN σ.H id (.obj τ y) (K (.jo id []) (id::rd) (ups++[(id,some (.obj τ y))])))=some r) (hn:ga c σ a o w M ν K r next):o.wp P a w next Q:=by
 obtain⟨y,rd,ups,M',h,il,hV,hz,_⟩:=n7 (.refl _) hc.mem (hc.ev x) h
 obtain⟨bf,h⟩:=ll h
 have ag8:c4 σ.H ups id=none:=hz.none bf
 have we:=il.trans (Tr.var il.mem ag8 t hV.cells)
 refine a8 (EK ho w) (hn _ _ _ _ _ (λb=>M' b∨b=w.heap.size) (dh ν id (.pointer (some ⟨w.heap.size,0,none⟩))) h ?_ ?_)
 ·rw[gr];exact we
 ·rw[gr];exact VR.afU (ay _ _ _) (by simp[dh])
theorem ag9(hE:EnvTy P E)(hc:Core c σ a.tmps w M ν){t:TypeId}{x:Operand}(ho:o.op= .box t x){K:ja α}{τ:Ty}{id:Nat}
  (h:(match JJ E τ id,σ.ρ x with
   |some ([.kE m],e),.JI υ y n=>cond (Nat.beq m n) (c8 υ τ y λy=>C6 σ.H id τ y [.kE m] e K) (lX true (σ.ρ x) σ.H τ (λy rd ups=>qN σ.H id (.obj τ y) (K (.jo id []) (id::rd) (ups++[(id,some (.obj τ y))]))))
   |_,_=>lX true (σ.ρ x) σ.H τ (λy rd ups=>qN σ.H id (.obj τ y) (K (.jo id []) (id::rd) (ups++[(id,some (.obj τ y))]))))=some r) (hn:ga c σ a o w M ν K r next):o.wp P a w next Q:=by
 split at h
 ·rename_i m e υ y n sS hx
  cases hb:Nat.beq m n
  ·rw[hb]at h
   exact RC hE hc ho h hn
  ·rw[hb]at h
   have EO:=fV hb
   subst EO
   simp only[ak]at h
   obtain⟨e1,h⟩:=bB h
   subst e1
   obtain⟨bf,px,h⟩:=EN h
   have hv:=hc.ev x
   rw[hx]at hv
   simp only[VR]at hv
   obtain⟨hV,cs,ad,hva,hz⟩:=hv
   have JS:(a.eval x).cells.toList=cs.toList:=by rw[hva];rfl
   obtain⟨M',ν',il,hν⟩:=Tr.C6 hc.mem bf px t hV.cells (tu sS) (ad:=ad) (by rw[JS];simpa [cF]using hz)
   refine a8 (EK ho w) (hn _ _ _ _ _ M' ν' h il ?_)
   exact VR.Vx (by show bY _ (id+1) _ id=_;rw[az _ _ ω,ay]) hν
 ·exact RC hE hc ho h hn
theorem ud{i:Int}{n:Nat}(h:ba i n=true):0≤i∧i<(n:Int):=by rw[Vr]at h;simpa using h
theorem mz{b:Bool}{K:Option α}(h:cond b none K=some r):b=false∧K=some r:=by
 cases b
 ·exact⟨rfl,h⟩
 ·cases h
theorem Cg(hm:Mem c σ.H w M ν){x:bC}{u:Value}(hv:VR w M σ.H ν x u){K:(υ:Ty)→υ.den→List Nat→Option α}(h:kU x σ.H K=some r):
  ∃υ y rd,K υ y rd=some r∧ ∃b off cs,u= .pointer (some ⟨b,off,none⟩)∧At w b off cs∧Rd w M υ cs y:=by
 unfold kU at h
 split at h
 ·simp only[VR]at hv
  obtain⟨b,off,rfl,_,_,cs,ha,hr⟩:=hv
  exact⟨_,_,_,h,b,off,cs,rfl,ha,hr⟩
 ·rename_i id p
  simp only[VR]at hv
  obtain⟨e,he,nM⟩:=hv
  have mL:=hm.kZ id e he
  rw[he]at h
  cases e with
  |obj τ x=>
   obtain⟨υ,y,o',hp,hK⟩:=ke h
   simp only[AR]at nM
   obtain⟨hi,b,hb,rfl⟩:=nM
   simp only[ER]at mL
   obtain⟨b',cs,t,eY,hg,_,hr⟩:=mL
   rw[hb]at eY;cases eY
   have:=hp.eq.2
   subst this
   exact⟨υ,y,_,hK,b,_,_,rfl,At.of_block hg _ _,hp.rd hi hr⟩
  |own e l=>
   simp only[AR]at nM
   obtain⟨i,q,rfl,Hh,hi,b,n,cp,hb,rfl⟩:=nM
   obtain⟨υ,y,o',hp,hK⟩:=ke h
   simp only[ER]at mL
   rcases mL with⟨rfl,_⟩|⟨b',cs,t,cap,eY,hg,_,Vf,hl,GX,hs,hr⟩
   ·simp at Hh
   ·rw[hb]at eY;cases eY
    have:=hp.eq.2
    subst this
    have h1:=hr i Hh
    rw[←kJ l i e.zero Hh]at h1
    have h2:=hp.rd hi h1
    have h3:=hp.bound hi
    rw[qE,jH,qF,iw ω]at h2
    exact⟨υ,y,_,hK,b,_,_,rfl,At.of_block hg _ _,h2⟩
  |oI e l=>
   simp only[AR]at nM
   obtain⟨i,q,rfl,Hh,hi,b,n,cp,hb,rfl⟩:=nM
   obtain⟨υ,y,o',hp,hK⟩:=ke h
   simp only[ER]at mL
   have kV:=mL.1
   simp only[Rd,fh,eS]at kV
   obtain⟨a0,cap,ha0,_,hr⟩:=kV
   obtain⟨b',off,rfl,_,_,cs,pZ,hrr⟩:=hr i Hh
   rw[hb]at ha0;cases ha0
   have:=hp.eq.2
   subst this
   rw[gi]at pZ
   have alG:Rd w M e cs (List.getD l i e.zero):=by rw[kJ l i e.zero Hh];exact hrr
   have h2:=hp.rd hi alG
   have h3:=hp.bound hi
   have Zq:=alG.length
   refine⟨υ,y,_,hK,b,_,_,rfl,?_,h2⟩
   intro j v hj
   rw[lO]at hj
   split at hj
   ·rw[lP]at hj
    have:=pZ _ v hj
    rwa [←oV]at this
   ·cases hj
  |gd _ _ _ _=>cases h
  |gone=>cases h
 ·cases h
theorem Mem.linked{H:Nat→Option bl}(hm:Mem c H w M ν){id:Nat}{τ:Ty}{x:τ.den}{q:List Step}{j:Nat}(bf:H id=some (.gd τ x q j)):
  ∃b cs t sm e,ν id= .pointer (some ⟨b,0,none⟩)∧w.heap[b]? =some (.cells cs t (0,0))∧M b∧Rd w M τ sm x∧cs.toList=fb sm (cF q τ) [ν j]∧(ν j).oneCell'=true∧gN q τ (.slice e)=true∧cF q τ<sm.length∧H j≠none:=by
 have mL:=hm.kZ id _ bf
 simp only[ER]at mL
 obtain⟨b,cs,t,sm,u,hb,hg,hM,hr,JS,h1,e,hq⟩:=mL
 obtain⟨hj,b',eY,RD⟩:=hm.gd id _ _ _ _ bf
 rw[hb]at eY;cases eY
 obtain⟨y,o,hp⟩:=tk hq x
 have e9:cF q τ<sm.length:=by
  have:=hp.bound (kK hq).1
  have h2:=hp.eq.2
  have h3:=hr.length
  have:(Ty.slice e).size=1:=rfl
  omega
 have hu:u=ν j:=by
  rw[cell_of hg,←gR,JS,DQ e9]at RD
  exact oH RD
 subst hu
 exact⟨b,cs,t,sm,e,hb,hg,hM,hr,JS,h1,hq,e9,hj⟩
theorem yF{H:Nat→Option bl}(hm:Mem c H w M ν){id:Nat}{τ:Ty}{x:τ.den}{q:List Step}{j:Nat}(bf:H id=some (.gd τ x q j)){k:τ.den→iV→Option α}(h:C5 j q τ x H k=some r):
  ∃z ups M',k z ups=some r∧Tr c H w M ν (c4 H ups) w M' ν∧Fz H (c4 H ups)∧((∃e l,H j=some (.oI e l)∧ups=[])∨ ∃e l,H j=some (.own e l)∧ups=[(j,some (.oI e l))])∧ ∃b cs t,ν id= .pointer (some ⟨b,0,none⟩)∧w.heap[b]? =some (.cells cs t (0,0))∧M' b∧Rd w M' τ cs.toList z:=by
 obtain⟨b,cs,t,sm,e0,hb,hg,hM,hr,JS,h1,hq,e9,hj⟩:=hm.linked bf
 have VA:=(kK hq).1
 unfold C5 at h
 split at h
 ·rename_i e l G1
  obtain⟨z,hz,EP,G0,xV⟩:=oZ h
  obtain⟨M',il,hV,hM'⟩:=Tr.freeze hm G1
  refine⟨z,_,M',hz,il,λi=> ?_,.inr ⟨e,l,G1,rfl⟩,b,cs,t,hb,hg,?_,?_⟩
  ·by_cases hi:i=j
   ·subst hi;exact .inr ⟨e,l,G1,ay _ _ _⟩
   ·exact .inl (az _ _ hi)
  ·refine(hM' b).2 ⟨hM,λhjb=> ?_⟩
   have jB:j≠id:=λe=>by rw[e,bf]at G1;cases G1
   exact hm.zL j id _ _ b jB G1 trivial bf trivial hjb (by rw[hb];rfl)
  ·rw[JS]
   exact xV w M' sm [ν j] VA (hr.ca il.ca) (V.slice.1 hV)
 ·rename_i e l G1
  obtain⟨z,hz,EP,G0,xV⟩:=oZ h
  have mL:=hm.kZ j _ G1
  simp only[ER]at mL
  refine⟨z,_,M,hz,.refl hm,.refl H,.inl ⟨e,l,G1,rfl⟩,b,cs,t,hb,hg,hM,?_⟩
  rw[JS]
  exact xV w M sm [ν j] VA hr mL.1
 ·cases h
theorem akZ{τ υ:Ty}{t:TypeId}(hE:EnvTy P E)(ht:E.ty t=some τ)(h:gN ([]:List Step) υ τ=true):υ=τ:=bx h
theorem Rd.aha{e:Ty}{v:Value}{cs:List Value}{l:List e.den}(h:Rd w M (.slice e) cs l): ∃a n cap,cs=[.slice a n cap]:=by
 simp only[Rd]at h
 obtain⟨a,cap,rfl,_⟩:=h
 exact⟨a,_,cap,rfl⟩
theorem Hi{ρ:Operand→Value}{t:TypeId}{x:Operand}(ho:o.op= .load t x){τ:Ty}(h:kI P τ t)(ha:τ.isAgg=false){b off:Nat}{v:Value}(hx:ρ x= .pointer (some ⟨b,off,none⟩))(hc:w.cell? ⟨b,off,none⟩=some v):
  (execOp ρ o).run P w= .ok (.value v) w:=by
 have:(loadVar t ⟨b,off,none⟩).run P w= .ok v w:=by
  simp[loadVar,tq h,ha,load,Sem.run,hc]
 simp[execOp,ho,hx,Instr.loadAt,Instr.sureAddr,this]
theorem Mm(hE:EnvTy P E)(hc:Core c σ a.tmps w M ν){t:TypeId}{x:Operand}(ho:o.op= .load t x){K:ja α}{τ:Ty}(ht:E.ty t=some τ)
  (h:kU (σ.ρ x) σ.H (fun υ y rd=>c8 υ τ y λz=>K (.val τ z) rd [])=some r) (hn:ga c σ a o w M ν K r next):o.wp P a w next Q:=by
 obtain⟨υ,y,rd,h,b,off,cs,hu,pZ,hr⟩:=Cg hc.mem (hc.ev x) h
 obtain⟨e,h⟩:=bB h
 subst e
 refine a8 (wb ho (hE.ty t _ ht) hu pZ hr) (hn _ _ _ _ _ _ _ h (.refl hc.mem) ?_)
 simp only[VR]
 exact V.cK hr
theorem Zs(hE:EnvTy P E)(hc:Core c σ a.tmps w M ν){t:TypeId}{x:Operand}(ho:o.op= .load t x){K:ja α}{τ:Ty}(ht:E.ty t=some τ)
  (h:u6 τ (σ.ρ x) σ.H K=some r) (hn:ga c σ a o w M ν K r next):o.wp P a w next Q:=by
 unfold u6 at h
 simp only at h
 split at h
 ·rename_i id p hx
  split at h
  ·rename_i υ z q j bf
   have hv:=hc.ev x
   rw[hx]at hv
   simp only[VR]at hv
   obtain⟨e1,P3,nM⟩:=hv
   rw[bf]at P3;cases P3
   simp only[AR]at nM
   obtain⟨hi,b,hb,hu⟩:=nM
   obtain⟨b',cs,te,sm,e0,eY,hg,hM,hr,JS,h1,hq,e9,hj⟩:=hc.mem.linked bf
   rw[hb]at eY;cases eY
   cases hp:L8 p q
   ·rw[hp]at h
    cases GW:xQ p q
    ·
     rw[GW]at h
     simp only[av]at h
     obtain⟨υ',y,o',xX,h⟩:=ke h
     obtain⟨e2,h⟩:=bB h
     subst e2
     have hap:=xX.apart hi hq GW
     have ho':=xX.eq.2
     subst ho'
     have G0:=xX.bound hi
     have hlen:=hr.length
     have kV:Rd w M υ' ((cs.toList.drop (cF p υ)).take υ'.size) y:=by
      rw[JS,JP (by simp only[aI];omega) (by simp only[aI];omega)]
      exact xX.rd hi hr
     refine a8 (wb ho (hE.ty t _ ht) hu (At.of_block hg _ _) kV) (hn _ _ _ _ _ M ν h (.refl hc.mem) ?_)
     simp only[VR]
     exact V.cK kV
    ·
     rw[GW]at h
     simp only[av,ak]at h
     obtain⟨z',ups,M',h,il,_,_,b2,cs2,t2,tS,VB,JT,yG⟩:=yF hc.mem bf h
     rw[hb]at tS;cases tS
     rw[hg]at VB;cases VB
     obtain⟨υ',y,o',xX,h⟩:=ke h
     obtain⟨e2,h⟩:=bB h
     subst e2
     have ho':=xX.eq.2
     subst ho'
     have kV:=xX.rd hi yG
     refine a8 (wb ho (hE.ty t _ ht) hu (At.of_block hg _ _) kV) (hn _ _ _ _ _ M' ν h il ?_)
     simp only[VR]
     exact V.cK kV
   ·
    rw[hp]at h
    have:=Bc hp
    subst this
    simp only[ak]at h
    obtain⟨hpq,hK⟩:=cB h
    have hτ:τ= .slice e0:=(kK hpq).2.symm.trans (kK hq).2
    subst hτ
    have RD:w.cell? ⟨b,cF p υ,none⟩=some (ν j):=by rw[cell_of hg,←gR,JS,DQ e9]
    refine a8 (Hi ho (hE.ty t _ ht) rfl hu RD) (hn _ _ _ _ _ M ν hK (.refl hc.mem) ?_)
    simp only[VR]
    exact⟨hj,trivial⟩
  ·exact Mm hE hc ho ht h hn
 ·exact Mm hE hc ho ht h hn
end VM
end
section
namespace VM
open Go
variable{P:Program}{E:Env}{o:Oper}{a:Act}{w:World}{M:Nat→Prop}{ν:Nat→Value}{σ:St}{c:Ctx}{α:Type}{r:α}{next:Act→World→Prop}{Q:Exit→Act→World→Prop}
theorem Fz.own{H H1:Nat→Option bl}(h:Fz H H1){i:Nat}{e:Ty}{l:List e.den}(hi:H i=some (.own e l)):H1 i=some (.own e l)∨H1 i=some (.oI e l):=by
 rcases h i with h'|⟨e',l',h1,h2⟩
 ·exact .inl (by rw[h',hi])
 ·rw[hi]at h1;cases h1;exact .inr h2
theorem Tc(hE:EnvTy P E)(hc:Core c σ a.tmps w M ν){t:TypeId}{x y:Operand}(ho:o.op= .store t x y){K:ja α}{τ:Ty}(ht:E.ty t=some τ)
  (h:lZ τ (σ.ρ x) (σ.ρ y) σ.H K=some r) (hn:ga c σ a o w M ν K r next):o.wp P a w next Q:=by
 unfold lZ at h
 split at h
 ·rename_i id p hx
  obtain⟨z,rd,ups,M',h,il,hV,hz,kV⟩:=n7 (.refl _) hc.mem (hc.ev y) h
  have hv:=hc.ev x
  rw[hx]at hv
  have hvz:=VR.ca il.ca il.goes hv
  have zQ:=hE.ty t τ ht
  have Mn:=hV.cells.length
  rw[bI]at Mn
  split at h
  ·rename_i υ x0 bf
   have px:=hz.obj bf
   obtain⟨x1,hK,EP,G0,xV⟩:=oZ h
   simp only[VR]at hvz
   obtain⟨e1,P3,nM⟩:=hvz
   rw[px]at P3;cases P3
   simp only[AR]at nM
   obtain⟨hi,b,hb,hu⟩:=nM
   have mL:=il.mem.kZ id _ px
   simp only[ER]at mL
   obtain⟨b',cs,te,eY,hg,hM,hr⟩:=mL
   rw[hb]at eY;cases eY
   have G0:=G0 hi
   have Zq:=hr.length
   rw[bI]at Zq
   have dE:=m8 (P:=P) ho zQ hu hg Mn ω hV.cells.oJ
   rw[bI]at dE
   have we:Tr c (c4 σ.H ups) w M' ν (bY (c4 σ.H ups) id (some (.obj υ x1))) (w.setRow b (fb cs.toList (cF p υ) (a.eval y).cells.toList).toArray) M' ν:=by
    refine Tr.write (e':= .obj υ x1) il.mem px trivial trivial rfl (by rw[hb];rfl) hg λPL hk Bf=> ?_
    simp only[ER]
    refine⟨b,_,te,hb,setRow_heap w b cs _ te _ hg,Bf,?_⟩
    exact(xV w M' cs.toList _ hi hr hV.cells).ca hk
   refine qT dE ?_
   refine hn _ _ _ _ _ M' ν hK ?_ (by simp[VR])
   rw[gr]
   have:=il.trans we
   unfold fb at this
   rw[bI]at this
   exact this
  ·rename_i e l bf
   split at h
   ·rename_i i q h0
    obtain⟨zS,h⟩:=mz h
    have px:c4 σ.H ups id=some (.own e l):=by rw[kV id zS];exact bf
    obtain⟨y1,hK,EP,G0,xV⟩:=oZ h
    simp only[VR]at hvz
    obtain⟨e1,P3,nM⟩:=hvz
    rw[px]at P3;cases P3
    simp only[AR]at nM
    obtain⟨i',q',hpq,Hh,hi,b,n,cp,hb,hu⟩:=nM
    cases hpq
    have mL:=il.mem.kZ id _ px
    simp only[ER]at mL
    rcases mL with⟨rfl,_⟩|⟨b',cs,te,cap,eY,hg,hM,Vf,hl,GX,hs,hr⟩
    ·simp at Hh
    ·rw[hb]at eY;cases eY
     have G0:=G0 hi
     have tp:=ew (s:=e.size) Hh
     have ym:l.length*e.size≤cp*e.size:=lL _ hl
     have dE:=m8 (P:=P) ho zQ hu hg Mn ω hV.cells.oJ
     rw[bI]at dE
     have hri:=hr i Hh
     rw[←kJ l i e.zero Hh]at hri
     have pz:=xV w M' _ _ hi hri hV.cells
     have hch:((cs.toList.drop (i*e.size)).take e.size).length=e.size:=hri.length
     have Zt:fb cs.toList (i*e.size) (fb ((cs.toList.drop (i*e.size)).take e.size) (cF q e) (a.eval y).cells.toList)=fb cs.toList (i*e.size+cF q e) (a.eval y).cells.toList:=by
      have Y4:=pz.length
      have e1:cs.toList=cs.toList.take (i*e.size)++(((cs.toList.drop (i*e.size)).take e.size)++cs.toList.drop (i*e.size+e.size)):=by
       rw[←jH,gg,gg]
      have e9:(cs.toList.take (i*e.size)).length=i*e.size:=by rw[cc,bI];omega
      conv=>rhs;rw[e1]
      rw[show i*e.size+cF q e=(cs.toList.take (i*e.size)).length+cF q e from by rw[e9],xm,zK (by rw[hch,bI];omega)]
      generalize fb ((cs.toList.drop (i*e.size)).take e.size) (cF q e) (a.eval y).cells.toList=m at Y4 ⊢
      unfold fb
      rw[Y4,br]
     have we:Tr c (c4 σ.H ups) w M' ν (bY (c4 σ.H ups) id (some (.own e (List.set l i y1)))) (w.setRow b (fb cs.toList (i*e.size+cF q e) (a.eval y).cells.toList).toArray) M' ν:=by
      refine Tr.write (e':= .own e (List.set l i y1)) il.mem px trivial trivial ⟨rfl,by rw[bN]⟩ (by rw[hb];simp[fK];omega) hg λPL hk Bf=> ?_
      simp only[ER]
      refine .inr ⟨b,_,te,cp,by rw[bN];exact hb,setRow_heap w b cs _ te _ hg,Bf,Vf,by rw[bN];exact hl,GX,?_,?_⟩
      ·rw[←Zt,iX,gC (by rw[pz.length,bI];omega),bI];exact hs
      ·have h9:cs.toList.length=cp*e.size:=by rw[bI,hs]
       have h10:=qS.set (w:=w) (M:=M') (cs:=cs.toList) (l:=l) hr (by rw[h9];exact ym) Hh pz
       rw[Zt]at h10
       exact λj hj=>(h10 j hj).ca hk
     refine qT dE ?_
     refine hn _ _ _ _ _ M' ν hK ?_ (by simp[VR])
     rw[gr]
     have:=il.trans we
     unfold fb at this
     rw[bI]at this
     exact this
   ·cases h
  ·cases h
 ·cases h
theorem Fz.gd{H H1:Nat→Option bl}(h:Fz H H1){i:Nat}{τ:Ty}{x:τ.den}{p:List Step}{j:Nat}(hi:H i=some (.gd τ x p j)):H1 i=some (.gd τ x p j):=by
 rcases h i with h'|⟨e',l',h1,h2⟩
 ·rw[h',hi]
 ·rw[hi]at h1;cases h1
theorem yH{β:Type}{l a:List β}{o:Nat}(hl:o+a.length≤l.length)(i:Nat):(fb l o a)[i]? =if o≤i∧i<o+a.length then a[i-o]? else l[i]? :=by
 unfold fb
 by_cases h1:i<o
 ·rw[ah ω,br,se (by simp;omega),lO,aj h1]
 ·by_cases h2:i<o+a.length
  ·rw[aj ω,se (by simp;omega),oG (by simp;omega)]
   simp[iw (show o≤l.length by omega)]
  ·rw[ah ω,oG (by simp;omega)]
   simp only[aS,cc,iw (show o≤l.length by omega),lP]
   congr 1;omega
theorem Mo{β:Type}{l a b:List β}{o o':Nat}(h:o'≤o∧o+a.length≤o'+b.length)(h1:o+a.length≤l.length)(h2:o'+b.length≤l.length):fb (fb l o a) o' b=fb l o' b:=by
 have l1:=gC (a:=l) (o:=o) (new:=a) h1
 apply zt
 intro i
 rw[yH ω,yH ω,yH ω]
 by_cases c1:o'≤i∧i<o'+b.length
 ·rw[aj c1,aj c1]
 ·rw[ah c1,ah c1,ah ω]
theorem H8{β:Type}{l:List β}{o:Nat}{u v:β}(h:o<l.length):fb (fb l o [u]) o [v]=fb l o [v]:=
 Mo (by simp) (by simp;omega) (by simp;omega)
theorem VC{β:Type}{l a b:List β}{o o':Nat}(h:o+a.length≤o'∨o'+b.length≤o)(h1:o+a.length≤l.length)(h2:o'+b.length≤l.length):fb (fb l o a) o' b=fb (fb l o' b) o a:=by
 have l1:=gC (a:=l) (o:=o) (new:=a) h1
 have l2:=gC (a:=l) (o:=o') (new:=b) h2
 apply zt
 intro i
 rw[yH ω,yH ω,yH ω,yH ω]
 by_cases c1:o'≤i∧i<o'+b.length
 ·rw[aj c1,ah ω,aj c1]
 ·rw[ah c1]
  by_cases c2:o≤i∧i<o+a.length
  ·rw[aj c2,aj c2]
  ·rw[ah c2,ah c2,ah c1]
theorem Mp{m:(υ:Ty)→υ.den→(υ.den→Option α)→Option α}: ∀{τ:Ty} {x:τ.den} {n:Nat} {k:τ.den→Option α},m4 τ x n m k=some r→ ∃υ y o k',C9 τ x n υ y o∧m υ y k'=some r:=λh=>by
 obtain⟨υ,y,o,k',h1,h2,_⟩:=sq h
 exact⟨υ,y,o,k',h1,h2⟩
theorem ES{υ:Ty}{u:υ.den}: ∀{p:List Step} {τ:Ty} {x:τ.den} {k:τ.den→Option α},vo υ u p τ x k=some r→ ∃y o,JO p τ x υ y o
 |[],τ,x,k,h=>by
  obtain⟨e,_⟩:=bB (h:c8 υ τ u k=some r)
  subst e
  exact⟨x,0,.nil x⟩
 | .kE n::p,τ,x,k,h=>by
  obtain⟨υ',y,o,k',hf,hm⟩:=Mp (h:m4 τ x n _ k=some r)
  obtain⟨y',o',hp⟩:=ES (k:=k') hm
  exact⟨y',_,.kE hf hp⟩
 | .idx i::p,τ,x,k,h=>by
  cases τ with
  |arr n e=>
   obtain⟨y',o',hp⟩:=ES (p:=p) (τ:=e) (x:=List.getD x i e.zero) (k:=λz=>k (List.set x i z)) h
   exact⟨y',_,.idx hp⟩
  |_=>simp[vo,DN]at h
theorem H9: ∀{p q:List Step} {τ e:Ty},xQ p q=true→gN q τ (.slice e)=true→cF p τ≤cF q τ∧cF q τ+1≤cF p τ+(Hd p τ).size
 |[],q,τ,e,_,hq=>by
  obtain⟨_,_,xX⟩:=tk hq τ.zero
  have:=xX.bound (kK hq).1
  have h2:=xX.eq.2
  have:(Ty.slice e).size=1:=rfl
  simp only[cF,Hd]
  omega
 | .kE a::p,.kE b::q,τ,e,hp,hq=>by
  simp only[xQ,bR]at hp
  have:=fV hp.1
  subst this
  unfold gN at hq
  split at hq
  ·rename_i c hc
   obtain⟨_,_,hf⟩:=tj hc τ.zero
   have:=hf.eq.1
   subst this
   have:=H9 hp.2 hq
   simp only[cF,Hd]
   omega
  ·cases hq
 | .kE _::_,[],_,_,hp,_| .kE _::_,.idx _::_,_,_,hp,_| .idx _::_,_,_,_,hp,_=>by simp[xQ]at hp
theorem ER.Td{H:Nat→Option bl}(hm:Mem c H w M ν){k:Nat}{e:Ty}{l:List e.den}(hk:H k=some (.own e l)): ∃ad cp,ν k= .slice ad l.length cp:=by
 have:=hm.kZ k _ hk
 simp only[ER]at this
 rcases this with⟨rfl,a,hv⟩|⟨b,cs,t,cap,hv,_⟩
 ·exact⟨a,0,hv⟩
 ·exact⟨_,cap,hv⟩
theorem ET(hE:EnvTy P E)(hc:Core c σ a.tmps w M ν){t:TypeId}{x y:Operand}(ho:o.op= .store t x y){K:ja α}{τ:Ty}(ht:E.ty t=some τ){id k:Nat}{q:List Step}{e:Ty}{υ:Ty}{z:υ.den}
  (hx:σ.ρ x= .jo id q) (hy:σ.ρ y= .ref k) {en:bl} (bf:σ.H id=some en) (hen:en.mut) (Ia:en.lj (.gd υ z q k)) (hq:gN q υ (.slice e)=true)
  (ln: ∃b cs te sm u,ν id= .pointer (some ⟨b,0,none⟩)∧w.heap[b]? =some (.cells cs te (0,0))∧Rd w M υ sm z∧cs.toList=fb sm (cF q υ) [u])
  (h:Cb τ id k e q υ z σ.H K=some r) (hn:ga c σ a o w M ν K r next):o.wp P a w next Q:=by
 unfold Cb at h
 split at h
 ·rename_i e' l hk
  obtain⟨e1,h1⟩:=fW h
  clear h
  subst e1
  obtain⟨e2,h2⟩:=fW h1
  clear h1
  subst e2
  obtain⟨z',hK,EP,G0,xV⟩:=oZ h2
  obtain⟨b,cs,te,sm,u,hb,hg,hr,JS⟩:=ln
  have VA:=(kK hq).1
  obtain⟨ad,cp,hνk⟩:=ER.Td hc.mem hk
  have Dd:=hc.ev y
  rw[hy]at Dd
  simp only[VR]at Dd
  have Dd:=Dd.2
  have G0:=G0 VA
  have hlen:=hr.length
  have Lp:(Ty.slice e').size=1:=rfl
  have e9:cF q υ<sm.length:=ω
  have Mn:cs.toList.length=sm.length:=by rw[JS];exact gC (by simp;omega)
  have hv:=hc.ev x
  rw[hx]at hv
  simp only[VR]at hv
  obtain⟨e3,he3,nM⟩:=hv
  rw[bf]at he3;cases he3
  have nM:=nM.lj Ia
  simp only[AR]at nM
  obtain⟨_,b',eY,hu⟩:=nM
  rw[hb]at eY;cases eY
  have hyc:(a.eval y).cells.toList=[ν k]:=by rw[Dd,hνk];rfl
  have sZ:(a.eval y).cells.size=(Ty.slice e').size:=by rw[←bI,hyc];rfl
  have dE:=m8 (P:=P) ho (hE.ty t _ ht) hu hg sZ (by rw[←bI];omega) (by rw[hyc,hνk];simp[Value.oneCell'])
  have pz:(cs.toList.take (cF q υ)++(a.eval y).cells.toList++cs.toList.drop (cF q υ+(a.eval y).cells.toList.length))=fb sm (cF q υ) [ν k]:=by
   rw[hyc]
   show fb cs.toList (cF q υ) [ν k]=_
   rw[JS,H8 e9]
  rw[pz]at dE
  have hrz:Rd w M υ (fb sm (cF q υ) [.slice none 0 0]) z':=xV w M sm [.slice none 0 0] VA hr (Rd.zero w M (.slice e'))
  have il:Tr c σ.H w M ν (bY σ.H id (some (.gd υ z' q k))) (w.setRow b (fb sm (cF q υ) [ν k]).toArray) M ν:=by
   refine Tr.write (e':= .gd υ z' q k) hc.mem bf hen trivial (by cases en<;>simp only[bl.lj]at Ia ⊢ <;>exact Ia) (by rw[hb];rfl) hg (λPL Hj Bf=> ?_) (fun τ' x' p' j' hl=> ?_)
   ·simp only[ER]
    refine⟨b,_,te,fb sm (cF q υ) [.slice none 0 0],ν k,hb,setRow_heap w b cs _ te _ hg,Bf,hrz.ca Hj,?_,by rw[hνk];rfl,e',hq⟩
    rw[H8 e9]
   ·cases hl
    refine⟨by rw[hk];simp,b,hb,?_⟩
    rw[cell_of (setRow_heap w b cs _ te _ hg),←gR]
    show(fb sm (cF q υ) [ν k])[cF q υ]? =_
    rw[DQ e9]
  exact qT dE (hn _ _ _ _ _ M ν hK il (by simp[VR]))
 ·cases h
theorem EU(hE:EnvTy P E)(hc:Core c σ a.tmps w M ν){t:TypeId}{x y:Operand}(ho:o.op= .store t x y){K:ja α}{τ:Ty}(ht:E.ty t=some τ)
  (h:kb E τ (σ.ρ x) (σ.ρ y) σ.H K=some r) (hn:ga c σ a o w M ν K r next):o.wp P a w next Q:=by
 have hold:lZ τ (σ.ρ x) (σ.ρ y) σ.H K=some r→o.wp P a w next Q:=λh=>Tc hE hc ho ht h hn
 unfold kb at h
 simp only at h
 split at h
 ·rename_i id p hx
  have oY:=hx
  split at h
  ·rename_i υ z bf
   split at h
   ·rename_i q e k sS hy
    cases hp:L8 p q
    ·rw[hp]at h;exact hold h
    ·rw[hp]at h
     simp only[ak]at h
     have:=Bc hp
     subst this
     have hq:=tu sS
     have mL:=hc.mem.kZ id _ bf
     simp only[ER]at mL
     obtain⟨b,cs,te,hb,hg,hM,hr⟩:=mL
     have e9:cF p υ<cs.toList.length:=by
      obtain⟨_,_,xX⟩:=tk hq z
      have:=xX.bound (kK hq).1
      have h2:=xX.eq.2
      have:=hr.length
      have:(Ty.slice e).size=1:=rfl
      omega
     refine ET hE hc ho ht hx hy bf trivial rfl hq ⟨b,cs,te,cs.toList,cs.toList[cF p υ],hb,hg,hr,?_⟩ h hn
     exact(Mh (bn e9)).symm
   ·exact hold h
  ·rename_i υ z q j bf
   obtain⟨b,cs,te,sm,e0,hb,hg,hM,hr,JS,h1,hq,e9,hj⟩:=hc.mem.linked bf
   have zT:lX true (σ.ρ y) σ.H τ (λy rd ups=>vo τ y p υ z λz=>K .any (id::rd) (ups++[(id,some (cond (xQ p q) (.obj υ z) (.gd υ z q j)))]))=some r→o.wp P a w next Q:=by
    intro h
    obtain⟨u,rd,ups,M',h,il,hV,hz,kV⟩:=n7 (.refl _) hc.mem (hc.ev y) h
    have px:=hz.gd bf
    have hv:=hc.ev x
    rw[hx]at hv
    have hvz:=VR.ca il.ca il.goes hv
    simp only[VR]at hvz
    obtain⟨e1,P3,nM⟩:=hvz
    rw[px]at P3;cases P3
    simp only[AR]at nM
    obtain⟨hi,b1,my,hu⟩:=nM
    rw[hb]at my;cases my
    obtain⟨b2,cs2,te2,cs3,e3,tS,VB,JT,yG,Zu,h12,Y5,alM,hj2⟩:=il.mem.linked px
    rw[hb]at tS;cases tS
    rw[hg]at VB;cases VB
    obtain⟨z',hK,EP,G0,xV⟩:=oZ h
    have G0:=G0 hi
    have Zq:=yG.length
    have Mn:cs.toList.length=cs3.length:=by rw[Zu];exact gC (by simp;omega)
    have hcy:=hV.cells.length
    rw[bI]at hcy
    have ayc:(a.eval y).cells.toList.length=τ.size:=by rw[bI];exact hcy
    have dE:=m8 (P:=P) ho (hE.ty t _ ht) hu hg hcy (by rw[←bI];omega) hV.cells.oJ
    have VE:cs.toList.take (cF p υ)++(a.eval y).cells.toList++cs.toList.drop (cF p υ+(a.eval y).cells.toList.length)=fb cs.toList (cF p υ) (a.eval y).cells.toList:=rfl
    rw[VE]at dE
    have hzr:=xV w M' cs3 _ hi yG hV.cells
    have fin: ∀e',e'.mut→bl.lj (.gd υ z q j) e'→K .any (id::rd) (ups++[(id,some e')])=some r→(∀PL,e8 w M' (w.setRow b (fb cs.toList (cF p υ) (a.eval y).cells.toList).toArray) PL→PL b→ER (w.setRow b (fb cs.toList (cF p υ) (a.eval y).cells.toList).toArray) PL (ν id) e')→
      (∀τ' x' p' j',e'= .gd τ' x' p' j'→(c4 σ.H ups) j'≠none∧ ∃b',ν id= .pointer (some ⟨b',0,none⟩)∧(w.setRow b (fb cs.toList (cF p υ) (a.eval y).cells.toList).toArray).cell? ⟨b',cF p' τ',none⟩=some (ν j'))→o.wp P a w next Q:=by
     intro e' jR JN hK S8 sS
     have we:=Tr.write (e':=e') il.mem px trivial jR JN (by rw[hb];rfl) hg S8 sS
     refine qT dE (hn _ _ _ _ _ M' ν hK ?_ (by simp[VR]))
     rw[gr]
     exact il.trans we
    cases GW:xQ p q
    ·rw[GW]at hK
     simp only[av]at hK
     obtain⟨yy,oo,xX⟩: ∃y o,JO p υ z τ y o:=ES h
     have hap:=xX.apart hi hq GW
     have hoo:=xX.eq.2
     subst hoo
     have afW:fb cs.toList (cF p υ) (a.eval y).cells.toList=fb (fb cs3 (cF p υ) (a.eval y).cells.toList) (cF q υ) [ν j]:=by
      rw[Zu]
      exact VC (by simp only[aI];omega) (by simp only[aI];omega) ω
     have Y4:=gC (a:=cs3) (o:=cF p υ) (new:=(a.eval y).cells.toList) ω
     refine fin (.gd υ z' q j) trivial rfl hK (λPL hk Bf=> ?_) (fun τ' x' p' j' hl=> ?_)
     ·simp only[ER]
      exact⟨b,_,te,_,ν j,hb,setRow_heap w b cs _ te _ hg,Bf,hzr.ca hk,afW,h1,e0,hq⟩
     ·cases hl
      refine⟨hj2,b,hb,?_⟩
      rw[cell_of (setRow_heap w b cs _ te _ hg),←gR]
      show(fb cs.toList (cF p υ) (a.eval y).cells.toList)[cF q υ]? =_
      rw[afW,DQ ω]
    ·rw[GW]at hK
     simp only[ak]at hK
     refine fin (.obj υ z') trivial rfl hK (λPL hk Bf=> ?_) (fun τ' x' p' j' hl=>by cases hl)
     simp only[ER]
     refine⟨b,_,te,hb,setRow_heap w b cs _ te _ hg,Bf,?_⟩
     show Rd _ _ υ (fb cs.toList (cF p υ) (a.eval y).cells.toList) z'
     have lU:=H9 GW hq
     rw[EP]at lU
     have ho:fb cs.toList (cF p υ) (a.eval y).cells.toList=fb cs3 (cF p υ) (a.eval y).cells.toList:=by
      rw[Zu]
      exact Mo (by simp only[aI];omega) (by simp only[aI];omega) ω
     have h9:=hzr.ca hk
     rw[←ho]at h9
     exact h9
   split at h
   ·rename_i q' e k sS hy
    cases hp:(L8 p q&&L8 q q')
    ·rw[hp]at h;exact zT h
    ·rw[hp]at h
     simp only[ak]at h
     rw[bR]at hp
     have:=Bc hp.1
     subst this
     have:=Bc hp.2
     subst this
     refine ET hE hc ho ht hx hy bf trivial rfl (tu sS) ⟨b,cs,te,sm,ν j,hb,hg,hr,JS⟩ h hn
   ·exact zT h
  ·exact hold h
 ·exact hold h
theorem Te(hE:EnvTy P E)(hc:Core c σ a.tmps w M ν){t:TypeId}{x y:Operand}(ho:o.op= .store t x y){K:ja α}{τ:Ty}(ht:E.ty t=some τ)
  (h:sP E τ (σ.ρ x) (σ.ρ y) σ.H K=some r) (hn:ga c σ a o w M ν K r next):o.wp P a w next Q:=by
 unfold sP at h
 split at h
 ·rename_i id υ z n hx hy
  split at h
  ·rename_i m e sS
   cases EO:Nat.beq m n
   ·rw[EO]at h
    simp only[av]at h
    exact EU hE hc ho ht h hn
   ·rw[EO]at h
    simp only[ak]at h
    have EO:=fV EO
    subst EO
    obtain⟨e1,h1⟩:=fW h
    clear h
    subst e1
    have hq:=tu sS
    have Dd:=hc.ev y
    rw[hy]at Dd
    simp only[VR]at Dd
    obtain⟨hV,cs,ad,hva,hz⟩:=Dd
    have hcy:(a.eval y).cells=cs:=by rw[hva];rfl
    obtain⟨en,bf,hen,hK⟩: ∃en:bl,σ.H id=some en∧(∃z0,en= .obj τ z0∨ ∃q j,en= .gd τ z0 q j)∧σ.H (id+2)=none∧K .any [id,id+2] [(id,some (.gd τ z [.kE m] (id+2))),(id+2,some (.own e []))]=some r:=by
     unfold m6 at h1
     split at h1
     ·rename_i υ z0 bf
      obtain⟨e2,h2⟩:=fW h1
      clear h1
      subst e2
      obtain⟨h3,h4⟩:=ll h2
      exact⟨_,bf,⟨z0,.inl rfl⟩,h3,h4⟩
     ·rename_i υ z0 q j bf
      obtain⟨e2,h2⟩:=fW h1
      clear h1
      subst e2
      obtain⟨h3,h4⟩:=ll h2
      exact⟨_,bf,⟨z0,.inr ⟨q,j,rfl⟩⟩,h3,h4⟩
     ·cases h1
     ·cases h1
     ·cases h1
    obtain⟨hk,hK⟩:=hK
    have arc:en.mut:=by rcases hen with⟨z0,rfl|⟨q,j,rfl⟩⟩<;>trivial
    have Ia:en.lj (.obj τ z):=by rcases hen with⟨z0,rfl|⟨q,j,rfl⟩⟩<;>rfl
    obtain⟨b,sm,te,hb,hg,sZ⟩: ∃b sm te,ν id= .pointer (some ⟨b,0,none⟩)∧w.heap[b]? =some (.cells sm te (0,0))∧sm.toList.length=τ.size:=by
     rcases hen with⟨z0,rfl|⟨q,j,rfl⟩⟩
     ·have:=hc.mem.kZ id _ bf
      simp only[ER]at this
      obtain⟨b,sm,te,h2,h3,_,h5⟩:=this
      exact⟨b,sm,te,h2,h3,h5.length⟩
     ·obtain⟨b,sm,te,zb,_,h2,h3,_,h5,h6,_,_,h7,_⟩:=hc.mem.linked bf
      refine⟨b,sm,te,h2,h3,?_⟩
      rw[h6,gC (by simp only[aI];omega),h5.length]
    have hv:=hc.ev x
    rw[hx]at hv
    simp only[VR]at hv
    obtain⟨e3,he3,nM⟩:=hv
    rw[bf]at he3;cases he3
    have nM:=nM.lj Ia
    simp only[AR]at nM
    obtain⟨_,b',eY,hu⟩:=nM
    rw[hb]at eY;cases eY
    have Mn:=hV.cells.length
    have dE:=m8 (P:=P) ho (hE.ty t _ ht) hu hg (by rw[←bI];exact Mn) (by rw[←bI,sZ];simp[cF]) hV.cells.oJ
    have VE:sm.toList.take (cF [] τ)++(a.eval y).cells.toList++sm.toList.drop (cF [] τ+(a.eval y).cells.toList.length)=(a.eval y).cells.toList:=by
     simp only[cF,oU,cJ,gi]
     rw[kG ω,ch]
    rw[VE]at dE
    have xV:=setRow_heap w b sm (a.eval y).cells.toList.toArray te _ hg
    have il:=Tr.write (e':= .obj τ z) (new:=(a.eval y).cells.toList.toArray) hc.mem bf arc trivial Ia (by rw[hb];rfl) hg (λPL Hj Bf=>by
     simp only[ER]
     exact⟨b,_,te,hb,xV,Bf,hV.cells.ca Hj⟩)
    have jB:id+2≠id:=ω
    have we:=Tr.Vy il.mem (id:=id) (k:=id+2) (by rw[az _ _ jB];exact hk) (ay _ _ _) hb xV hq (ad:=ad) (by rw[hcy];simpa [cF]using hz)
    have e1:c4 (bY σ.H id (some (.obj τ z))) [(id,some (.gd τ z [.kE m] (id+2))),(id+2,some (.own e []))]=c4 σ.H [(id,some (.gd τ z [.kE m] (id+2))),(id+2,some (.own e []))]:=by
     show bY (bY (bY σ.H id _) id _) (id+2) _=bY (bY σ.H id _) (id+2) _
     rw[yE]
    rw[e1]at we
    exact qT dE (hn _ _ _ _ _ _ _ hK (il.trans we) (by simp[VR]))
  ·exact EU hE hc ho ht h hn
 ·exact EU hE hc ho ht h hn
end VM
end
section
namespace VM
open Go
variable{P:Program}{E:Env}{o:Oper}{a:Act}{w:World}{M:Nat→Prop}{ν:Nat→Value}{σ:St}{c:Ctx}{α:Type}{r:α}{next:Act→World→Prop}{Q:Exit→Act→World→Prop}
theorem nb{n:Nat}(h:Nat.beq n 0=false):n≠0:=by rw[←mY,vQ]at h;exact h
theorem At.sub{b off:Nat}{cs:List Value}(h:At w b off cs)(o n:Nat):At w b (off+o) ((cs.drop o).take n):=by
 intro j v hj
 rw[lO]at hj
 split at hj
 ·rw[lP]at hj
  have:=h _ v hj
  rwa [←oV]at this
 ·cases hj
def wg:bl→List Step→Option Ty
 | .obj τ _,p=>some (Hd p τ)
 | .gd τ _ _ _,p=>some (Hd p τ)
 | .own e _,.idx _::p| .oI e _,.idx _::p=>some (Hd p e)
 |_,_=>none
theorem EV{id:Nat}{p:List Step}{H:Nat→Option bl}{k:Ty→Option α}(h:m6 id p H k=some r): ∃e υ,H id=some e∧wg e p=some υ∧k υ=some r:=by
 unfold m6 at h
 split at h
 ·rename_i τ x bf
  obtain⟨υ,y,o,hp,hk⟩:=ke h
  exact⟨_,υ,bf,by simp[wg,hp.eq.1],hk⟩
 ·rename_i τ x _ _ bf
  obtain⟨υ,y,o,hp,hk⟩:=ke h
  exact⟨_,υ,bf,by simp[wg,hp.eq.1],hk⟩
 ·rename_i e l bf
  split at h
  ·obtain⟨υ,y,o,hp,hk⟩:=ke h
   exact⟨_,υ,bf,by simp[wg,hp.eq.1],hk⟩
  ·cases h
 ·rename_i e l bf
  split at h
  ·obtain⟨υ,y,o,hp,hk⟩:=ke h
   exact⟨_,υ,bf,by simp[wg,hp.eq.1],hk⟩
  ·cases h
 ·cases h
theorem AR.step{v:Value}{p:List Step}{u:Value}{e:bl}{υ:Ty}(h:AR v p u e)(ht:wg e p=some υ)(s:Step)(hs:xT [s] υ):
  ∃b off,u= .pointer (some ⟨b,off,none⟩)∧AR v (p++[s]) (.pointer (some ⟨b,off+cF [s] υ,none⟩)) e:=by
 cases e with
 |obj τ x=>
  simp only[wg,iv]at ht
  simp only[AR]at h ⊢
  obtain⟨hi,b,hb,rfl⟩:=h
  subst ht
  exact⟨b,_,rfl,(sl p [s] τ).2 ⟨hi,hs⟩,b,hb,by rw[sj]⟩
 |gd τ x _ _=>
  simp only[wg,iv]at ht
  simp only[AR]at h ⊢
  obtain⟨hi,b,hb,rfl⟩:=h
  subst ht
  exact⟨b,_,rfl,(sl p [s] τ).2 ⟨hi,hs⟩,b,hb,by rw[sj]⟩
 |own e l=>
  simp only[AR]at h ⊢
  obtain⟨i,q,rfl,Hh,hi,b,n,cp,hb,rfl⟩:=h
  simp only[wg,iv]at ht
  subst ht
  exact⟨b,_,rfl,i,q++[s],rfl,Hh,(sl q [s] e).2 ⟨hi,hs⟩,b,n,cp,hb,by rw[sj,oV]⟩
 |oI e l=>
  simp only[AR]at h ⊢
  obtain⟨i,q,rfl,Hh,hi,b,n,cp,hb,rfl⟩:=h
  simp only[wg,iv]at ht
  subst ht
  exact⟨b,_,rfl,i,q++[s],rfl,Hh,(sl q [s] e).2 ⟨hi,hs⟩,b,n,cp,hb,by rw[sj,oV]⟩
 |gone=>simp[wg]at ht
theorem Bh(hE:EnvTy P E)(hc:Core c σ a.tmps w M ν){t:TypeId}{x:Operand}{n:Nat}(ho:o.op= .fieldAddr t x n){K:ja α}{τ:Ty}(ht:E.ty t=some τ){id:Nat}{p:List Step}(hx:σ.ρ x= .jo id p)
  (h:m6 id p σ.H (fun υ=>m5 υ τ (xR τ τ.zero n fun υ' _=>cond (Nat.beq υ'.size 0) none (K (.jo id (p++[.kE n])) [id] [])))=some r) (hn:ga c σ a o w M ν K r next):o.wp P a w next Q:=by
 obtain⟨e,υ,bf,het,h⟩:=EV h
 obtain⟨he_,h_⟩:=fW h
 clear h
 subst he_
 have h:=h_
 clear h_
 obtain⟨υ',y,of,hf,h⟩:=ti h
 obtain⟨hz,h⟩:=mz h
 have hv:=hc.ev x
 rw[hx]at hv
 simp only[VR]at hv
 obtain⟨e',vZ,nM⟩:=hv
 rw[bf]at vZ;cases vZ
 obtain⟨b,off,hu,ahe⟩:=nM.step het (.kE n) trivial
 obtain⟨fs,f,PM,hff,hfo,Tf⟩:=(hE.ty t υ ht).kE hf
 obtain⟨v,dE,hvv⟩:=tt (P:=P) ho (w:=w) PM hff Tf (nb hz) hu
 refine a8 dE (hn _ _ _ _ _ M ν h (.refl hc.mem) ?_)
 simp only[VR]
 refine⟨e,bf,?_⟩
 rw[hvv,hfo,hf.eq.2]
 simpa [cF]using ahe
theorem zU(hE:EnvTy P E)(hc:Core c σ a.tmps w M ν){t:TypeId}{x:Operand}{n:Nat}(ho:o.op= .fieldAddr t x n){K:ja α}{τ:Ty}(ht:E.ty t=some τ){υ:Ty}{z:υ.den}(hx:σ.ρ x= .qM υ z)
  (h:m5 υ τ (xR υ z n fun υ y=>cond (Nat.beq υ.size 0) none (K (.qM υ y) [] []))=some r) (hn:ga c σ a o w M ν K r next):o.wp P a w next Q:=by
 obtain⟨he,h1⟩:=fW h
 subst he
 obtain⟨υ',y,of,hf,h⟩:=ti h1
 obtain⟨hz,h⟩:=mz h
 have hv:=hc.ev x
 rw[hx]at hv
 simp only[VR]at hv
 obtain⟨b,off,hu,hb,hM,cs,pZ,hr⟩:=hv
 obtain⟨fs,f,PM,hff,hfo,Tf⟩:=(hE.ty t υ ht).kE hf
 obtain⟨v,dE,hvv⟩:=tt (P:=P) ho (w:=w) PM hff Tf (nb hz) hu
 refine a8 dE (hn _ _ _ _ _ M ν h (.refl hc.mem) ?_)
 simp only[VR]
 exact⟨b,off+f.offset,hvv,hb,hM,_,by rw[hfo];exact pZ.sub of υ'.size,hf.rd hr⟩
theorem V.agg{τ:Ty}(ha:τ.isAgg=true){v:Value}{x:τ.den}(h:V w M τ v x): ∃cs,v= .agg cs∧Rd w M τ cs.toList x:=by
 unfold V at h;rw[aj ha]at h;exact h
theorem C9.agg{τ:Ty}{x:τ.den}{n:Nat}{υ:Ty}{y:υ.den}{o:Nat}(h:C9 τ x n υ y o):τ.isAgg=true:=by cases h<;>rfl
theorem VF(hE:EnvTy P E)(hc:Core c σ a.tmps w M ν){t:TypeId}{x:Operand}{n:Nat}(ho:o.op= .field t x n){K:ja α}{τ:Ty}(ht:E.ty t=some τ){υ:Ty}{z:υ.den}(hx:σ.ρ x= .val υ z)
  (h:m5 υ τ (xR υ z n fun υ y=>K (.val υ y) [] [])=some r) (hn:ga c σ a o w M ν K r next):o.wp P a w next Q:=by
 obtain⟨he,h1⟩:=fW h
 subst he
 obtain⟨υ',y,of,hf,h⟩:=ti h1
 have hv:=hc.ev x
 rw[hx]at hv
 simp only[VR]at hv
 obtain⟨cs,hu,hr⟩:=hv.agg hf.agg
 obtain⟨fs,f,PM,hff,hfo,Tf⟩:=(hE.ty t υ ht).kE hf
 have eO:=hf.rd hr
 refine a8 (JR ho PM hff Tf hu (by rw[hfo];exact eO)) (hn _ _ _ _ _ M ν h (.refl hc.mem) ?_)
 simp only[VR]
 rw[hfo]
 exact V.cK eO
theorem JU(hE:EnvTy P E)(hc:Core c σ a.tmps w M ν){t:TypeId}{x i:Operand}(ho:o.op= .indexAddr t x i){K:ja α}{τ:Ty}(ht:E.ty t=some τ)
  (h:gB τ (σ.ρ x) (σ.ρ i) σ.H K=some r) (hn:ga c σ a o w M ν K r next):o.wp P a w next Q:=by
 unfold gB at h
 obtain⟨k,n,hi,h2⟩:=m9 h
 clear h
 have h:=h2
 clear h2
 have RE:=hc.ev i
 rw[hi]at RE
 have RE:=RE.int
 have hv:=hc.ev x
 have zQ:=hE.ty t τ ht
 split at h
 ·
  rename_i e
  obtain⟨e',PM,hle⟩:=zQ.slice
  split at h
  ·rename_i υ l hx
   obtain⟨e1,h⟩:=bB h
   subst e1
   obtain⟨lU,h⟩:=cB h
   obtain⟨h0,h1⟩:=ud lU
   have h1:n<(List.length l:Int):=h1
   rw[hx]at hv
   simp only[VR]at hv
   have hv:=V.slice.1 hv
   simp only[Rd,fh,eS]at hv
   obtain⟨ad,cap,hu,alP,hr⟩:=hv
   obtain⟨b,off,rfl,hb,hM,cs,pZ,kV⟩:=hr n.toNat ω
   refine a8 (la ho PM hle hu RE h0 h1) (hn _ _ _ _ _ M ν h (.refl hc.mem) ?_)
   simp only[VR]
   refine⟨b,_,rfl,hb,hM,cs,pZ,?_⟩
   have:Rd w M e cs (List.getD l n.toNat e.zero):=by rw[kJ l n.toNat e.zero ω];exact kV
   exact this
  ·rename_i id hx
   rw[hx]at hv
   simp only[VR]at hv
   obtain⟨_,hu⟩:=hv
   split at h
   ·rename_i e2 l bf
    obtain⟨he_,h_⟩:=fW h
    clear h
    subst he_
    have h:=h_
    clear h_
    obtain⟨lU,h⟩:=cB h
    obtain⟨h0,h1⟩:=ud lU
    have mL:=hc.mem.kZ id _ bf
    simp only[ER]at mL
    rcases mL with⟨rfl,_⟩|⟨b,cs,te,cap,hb,hg,hM,Vf,hl,GX,hs,hr⟩
    ·simp at h1;omega
    ·rw[hb]at hu
     refine a8 (la ho PM hle hu RE h0 h1) (hn _ _ _ _ _ M ν h (.refl hc.mem) ?_)
     simp only[VR]
     refine⟨_,bf,?_⟩
     simp only[AR]
     exact⟨n.toNat,[],rfl,ω,trivial,b,_,_,hb,by simp[cF]⟩
   ·rename_i e2 l bf
    obtain⟨he_,h_⟩:=fW h
    clear h
    subst he_
    have h:=h_
    clear h_
    obtain⟨lU,h⟩:=cB h
    obtain⟨h0,h1⟩:=ud lU
    have mL:=hc.mem.kZ id _ bf
    simp only[ER]at mL
    obtain⟨kV,hhd⟩:=mL
    simp only[Rd,fh,eS]at kV
    obtain⟨ad,cap,hb,alP,hr⟩:=kV
    rcases hhd with⟨rfl,_⟩|⟨b,n2,c2,tS⟩
    ·simp at h1;omega
    ·rw[hb]at tS;cases tS
     rw[hb]at hu
     refine a8 (la ho PM hle hu RE h0 h1) (hn _ _ _ _ _ M ν h (.refl hc.mem) ?_)
     simp only[VR]
     refine⟨_,bf,?_⟩
     simp only[AR]
     exact⟨n.toNat,[],rfl,ω,trivial,b,_,_,hb,by simp[cF]⟩
   ·cases h
  ·cases h
 ·
  rename_i len e
  obtain⟨e',PM,hle⟩:=zQ.arr
  split at h
  ·rename_i id p hx
   obtain⟨en,υ,bf,het,h⟩:=EV h
   obtain⟨he_,h_⟩:=fW h
   clear h
   subst he_
   have h:=h_
   clear h_
   obtain⟨lU,h⟩:=cB h
   obtain⟨h0,h1⟩:=ud lU
   rw[hx]at hv
   simp only[VR]at hv
   obtain⟨en',vZ,nM⟩:=hv
   rw[bf]at vZ;cases vZ
   obtain⟨b,off,hu,ahe⟩:=nM.step het (.idx n.toNat) ⟨⟨len,e,rfl,ω⟩,trivial⟩
   refine a8 (so ho PM hle hu RE h0 h1) (hn _ _ _ _ _ M ν h (.refl hc.mem) ?_)
   simp only[VR]
   refine⟨en,bf,?_⟩
   simpa [cF,elT]using ahe
  ·rename_i υ l hx
   obtain⟨e1,h⟩:=bB h
   subst e1
   obtain⟨lU,h⟩:=cB h
   obtain⟨h0,h1⟩:=ud lU
   rw[hx]at hv
   simp only[VR]at hv
   obtain⟨b,off,hu,hb,hM,cs,pZ,hr⟩:=hv
   refine a8 (so ho PM hle hu RE h0 h1) (hn _ _ _ _ _ M ν h (.refl hc.mem) ?_)
   simp only[VR]
   exact⟨b,_,rfl,hb,hM,_,pZ.sub _ e.size,hr.idx ω⟩
  ·cases h
 ·cases h
theorem De(hc:Core c σ a.tmps w M ν){x:Operand}(ho:o.op= .nilCheck x){K:ja α}{id:Nat}{p:List Step}(hx:σ.ρ x= .jo id p)
  (h:K (.jo id p) [] []=some r) (hn:ga c σ a o w M ν K r next):o.wp P a w next Q:=by
 have hv:=hc.ev x
 have VG:=hv
 rw[hx]at hv
 simp only[VR]at hv
 obtain⟨e,he,nM⟩:=hv
 obtain⟨ad,hu⟩:=nM.ptr
 refine a8 (u9 ho hu) (hn _ _ _ _ _ M ν h (.refl hc.mem) ?_)
 rw[←hu,←hx];exact VG
theorem Bi(hc:Core c σ a.tmps w M ν){x:Operand}(ho:o.op= .nilCheck x){K:ja α}{τ:Ty}{z:τ.den}(hx:σ.ρ x= .qM τ z)
  (h:K (.qM τ z) [] []=some r) (hn:ga c σ a o w M ν K r next):o.wp P a w next Q:=by
 have hv:=hc.ev x
 have VG:=hv
 rw[hx]at hv
 simp only[VR]at hv
 obtain⟨b,off,hu,_⟩:=hv
 refine a8 (u9 ho hu) (hn _ _ _ _ _ M ν h (.refl hc.mem) ?_)
 rw[←hu,←hx];exact VG
theorem jr.get{H:Nat→Option bl}: ∀{pX:List bC} {vs:List Value},jr w M H ν pX vs→ ∀{i:Nat} {x:bC},pX[i]? =some x→ ∃v,vs[i]? =some v∧VR w M H ν x v
 |[],_,_,i,x,hx=>by simp at hx
 |y::pX,[],h,_,_,_=>by simp[jr]at h
 |y::pX,v::vs,h,0,x,hx=>by
  simp only[jr]at h
  simp at hx;subst hx
  exact⟨v,rfl,h.1⟩
 |y::pX,v::vs,h,i+1,x,hx=>by
  simp only[jr]at h
  exact jr.get h.2 (by simpa using hx)
theorem P4(hc:Core c σ a.tmps w M ν){x:Operand}{i:Nat}(ho:o.op= .extract x i){K:ja α}{vs:List bC}{v:bC}(hx:σ.ρ x= .tup vs)(hi:vs[i]? =some v)
  (h:K v [] []=some r) (hn:ga c σ a o w M ν K r next):o.wp P a w next Q:=by
 have hv:=hc.ev x
 rw[hx]at hv
 simp only[VR]at hv
 obtain⟨us,hu,Zv⟩:=hv
 obtain⟨u,hui,hvu⟩:=Zv.get hi
 exact a8 (EL ho hu hui) (hn _ _ _ _ _ M ν h (.refl hc.mem) hvu)
theorem Core.evs(hc:Core c σ a.tmps w M ν): ∀xs:List Operand,jr w M σ.H ν (xs.map σ.ρ) (xs.map a.eval)
 |[]=>by simp[jr]
 |x::xs=>by simp only[bV,jr];exact⟨hc.ev x,hc.evs xs⟩
theorem wh: ∀{pX:List bC} {vs:List Value} {H:Nat→Option bl} {M:Nat→Prop} {K:List bC→List Nat→iV→Option α},Mem c H w M ν→jr w M H ν pX vs→vV H pX K=some r→
  ∃cs rd ups M',K cs rd ups=some r∧Tr c H w M ν (c4 H ups) w M' ν∧jr w M' (c4 H ups) ν cs vs
 |[],vs,H,M,K,hm,hv,h=>⟨[],[],[],M,h,.refl hm,hv⟩
 |x::xs,[],H,M,K,hm,hv,h=>by simp[jr]at hv
 |x::xs,v::vs,H,M,K,hm,hv,h=>by
  simp only[jr]at hv
  unfold vV at h
  split at h
  ·rename_i id
   split at h
   ·rename_i τ z bf
    obtain⟨M1,b,ht,hb,e9,hM,sm,pZ,kV⟩:=Tr.fix hm bf
    obtain⟨cs,rd,ups,M2,hK,Vg,Zw⟩:=wh ht.mem (jr.ca ht.ca ht.goes hv.2) h
    refine⟨_,_,_,M2,hK,ht.trans Vg,?_⟩
    have h1:VR w M1 (bY H id (some .gone)) ν (.qM τ z) v:=by
     have P5:=hv.1
     simp only[VR]at P5 ⊢
     obtain⟨e,he,nM⟩:=P5
     rw[bf]at he;cases he
     simp only[AR]at nM
     obtain⟨_,b',eY,P5⟩:=nM
     rw[hb]at eY;cases eY
     exact⟨b,0,P5,e9,hM,sm,pZ,kV⟩
    simp only[jr]
    exact⟨VR.ca Vg.ca Vg.goes h1,Zw⟩
   ·cases h
  ·obtain⟨cs,rd,ups,M2,hK,Vg,Zw⟩:=wh hm hv.2 h
   refine⟨_,_,_,M2,hK,Vg,?_⟩
   simp only[jr]
   exact⟨VR.ca Vg.ca Vg.goes hv.1,Zw⟩
theorem Mq(hc:Core c σ a.tmps w M ν){f:FuncId}{first caps:Array Operand}(ho:o.op= .makeFunc (.func f) first caps){K:ja α}
  (h:cond first.isEmpty (vV σ.H (caps.toList.map σ.ρ) λcs rd ups=>K (.L9 f cs) rd ups) none=some r) (hn:ga c σ a o w M ν K r next):o.wp P a w next Q:=by
 obtain⟨hf,h⟩:=cB h
 obtain⟨cs,rd,ups,M',hK,ht,hv⟩:=wh hc.mem (hc.evs _) h
 refine a8 (Db ho (by simpa using hf)) (hn _ _ _ _ _ M' ν hK ht ?_)
 simp only[VR]
 exact⟨caps.toList.map a.eval,by congr 1;apply jq;simp,hv⟩
theorem P6(hE:EnvTy P E)(hc:Core c σ a.tmps w M ν){s d:TypeId}{x:Operand}(ho:o.op= .convert s d x){K:ja α}{τ:Ty}{k:IntKind}(hs:E.ty s=some τ)(hd:E.ty d=some (.int k))
  (h:vS (σ.ρ x) (λ_ n=>K (.val (.int k) (W k n)) [] [])=some r) (hn:ga c σ a o w M ν K r next):o.wp P a w next Q:=by
 obtain⟨k',n,hx,h⟩:=m9 h
 have hv:=hc.ev x
 rw[hx]at hv
 refine a8 (EM ho (hE.ty s τ hs).isSome (hE.ty d _ hd).int hv.int) (hn _ _ _ _ _ M ν h (.refl hc.mem) ?_)
 rw[EE];exact .mkInt k _
end VM
end
section
namespace VM
open Go
variable{P:Program}{E:Env}{o:Oper}{a:Act}{w:World}{M:Nat→Prop}{ν:Nat→Value}{σ:St}{c:Ctx}{α:Type}{r:α}{next:Act→World→Prop}{Q:Exit→Act→World→Prop}
theorem Tg{b:BinOp}{k k':IntKind}{x y:Int}{t:TypeId}{K:bC→Option α}(h:Zl b k x y K=some r):
  ∃z,K (.val (.int k) z)=some r∧(binOp b t (.int k x) (.int k' y)).run P w= .ok (.int k z) w:=by
 unfold Zl at h
 split at h
 ·obtain⟨h0,h⟩:=mz h
  rw[tX]at h0
  have h0: ¬y<0:=by simpa using h0
  refine⟨_,h,?_⟩
  rw[EE,Vs]
  simp[binOp,Op.shift,h0]
 ·obtain⟨h0,h⟩:=mz h
  rw[tX]at h0
  have h0: ¬y<0:=by simpa using h0
  refine⟨_,h,?_⟩
  rw[PZ]
  simp[binOp,Op.shift,h0]
 ·cases h
theorem JV{b:BinOp}{k:IntKind}{x y:Int}{t:TypeId}{K:bC→Option α}(h:tZ b k x y K=some r):
  ∃v u,K v=some r∧(binOp b t (.int k x) (.int k y)).run P w= .ok u w∧ ∀H,VR w M H ν v u:=by
 unfold tZ at h
 split at h
 ·exact⟨_,_,h,by simp[binOp,Op.intArith,EE],λH=> .mkInt _ _⟩
 ·exact⟨_,_,h,by simp[binOp,Op.intArith,EE],λH=> .mkInt _ _⟩
 ·exact⟨_,_,h,by simp[binOp,Op.intArith,EE],λH=> .mkInt _ _⟩
 ·obtain⟨h0,h⟩:=mz h
  rw[jA]at h0
  have h0: ¬y=0:=by simpa using h0
  exact⟨_,_,h,by simp[binOp,Op.intDiv,EE,agY,h0],λH=> .mkInt _ _⟩
 ·obtain⟨h0,h⟩:=mz h
  rw[jA]at h0
  have h0: ¬y=0:=by simpa using h0
  exact⟨_,_,h,by simp[binOp,Op.intDiv,agZ,h0],λH=> .mkInt _ _⟩
 ·exact⟨_,_,h,by simp[binOp,Op.intBits,tY],λH=> .mkInt _ _⟩
 ·exact⟨_,_,h,by simp[binOp,Op.intBits,tY],λH=> .mkInt _ _⟩
 ·exact⟨_,_,h,by simp[binOp,Op.intBits,tY],λH=> .mkInt _ _⟩
 ·exact⟨_,_,h,by simp[binOp,Op.intBits,tY],λH=> .mkInt _ _⟩
 ·exact⟨_,.bool (decide (x=y)),h,by simp[binOp,Op.intCmp];rfl,λH=>by rw[jA];exact .uc _⟩
 ·exact⟨_,.bool (!decide (x=y)),h,by simp[binOp,Op.intCmp];rfl,λH=>by rw[jA];exact .uc _⟩
 ·exact⟨_,_,h,by simp[binOp,Op.intCmp,tX],λH=> .uc _⟩
 ·exact⟨_,_,h,by simp[binOp,Op.intCmp,nZ],λH=> .uc _⟩
 ·exact⟨_,_,h,by simp[binOp,Op.intCmp,tX],λH=> .uc _⟩
 ·exact⟨_,_,h,by simp[binOp,Op.intCmp,nZ],λH=> .uc _⟩
 ·cases h
theorem Th{t:Option Ty}{op:BinOp}{τ:Ty}{x:τ.den}{υ:Ty}{y:υ.den}{K:bC→Option α}(h:EH t op τ x υ y K=some r):
  (∃(k k':IntKind) (m n:Int),bC.val τ x= .val (.int k) m∧bC.val υ y= .val (.int k') n∧(cond (Zm op) (Zl op k m n K) (if k=k' then tZ op k m n K else none))=some r)∨
  (∃z:τ.den,bC.val υ y= .val τ z∧t=some τ∧τ.comparable=true∧((op= .eql∧K (.val .bool (pt τ x z))=some r)∨(op= .neq∧K (.val .bool (!pt τ x z))=some r))):=by
 unfold EH at h
 split at h
 ·exact .inl ⟨_,_,_,_,rfl,rfl,h⟩
 ·right
  split at h
  ·cases h
  ·obtain⟨e,h1⟩:=fW h
   clear h
   subst e
   obtain⟨hc,h⟩:=cB h1
   clear h1
   split at h
   ·obtain⟨e,h1⟩:=bB h
    subst e
    exact⟨_,rfl,rfl,hc,.inl ⟨rfl,h1⟩⟩
   ·obtain⟨e,h1⟩:=bB h
    subst e
    exact⟨_,rfl,rfl,hc,.inr ⟨rfl,h1⟩⟩
   ·cases h
theorem Ch{t:TypeId}(hu:P.underlying t=some .bool)(x y:Bool)(w:World):(Op.equal t (.bool x) (.bool y)).run P w= .ok (x==y) w:=by
 unfold Op.equal
 obtain⟨n,hn⟩: ∃n,Op.maxDepth=n+1:=⟨9999,rfl⟩
 rw[hn]
 simp[Op.equalIn,run_underlying hu]
theorem run_eql_bool{t:TypeId}(hu:P.underlying t=some .bool)(x y:Bool):(binOp .eql t (.bool x) (.bool y)).run P w= .ok (.bool (x==y)) w:=by
 simp[binOp,Ch hu]
theorem run_neq_bool{t:TypeId}(hu:P.underlying t=some .bool)(x y:Bool):(binOp .neq t (.bool x) (.bool y)).run P w= .ok (.bool (!(x==y))) w:=by
 simp[binOp,Ch hu]
theorem alR(x y:ByteArray):(x.toList==y.toList)=decide (x.toList=y.toList):=by
 rw[oT];simp
theorem Mr{t:TypeId}(x y:ByteArray):(binOp .eql t (.string x) (.string y)).run P w= .ok (.bool (decide (x.toList=y.toList))) w:=by
 simp[binOp,Op.stringOp,alR]
theorem Ms{t:TypeId}(x y:ByteArray):(binOp .neq t (.string x) (.string y)).run P w= .ok (.bool (!decide (x.toList=y.toList))) w:=by
 simp[binOp,Op.stringOp,alR]
theorem VH(hE:EnvTy P E)(hc:Core c σ a.tmps w M ν){b:BinOp}{t t':TypeId}{x y:Operand}(ho:o.op= .binOp b t x y t'){K:ja α}
  (h:Mb (σ.ρ x) (fun τ x=>Mb (σ.ρ y) fun υ y=>EH (E.ty t) b τ x υ y λv=>K v [] [])=some r) (hn:ga c σ a o w M ν K r next):o.wp P a w next Q:=by
 have hx:=hc.ev x
 have hy:=hc.ev y
 unfold Mb at h
 split at h
 ·rename_i τ x' Zx
  split at h
  ·rename_i υ y' hye
   rw[Zx]at hx;rw[hye]at hy
   rcases Th h with⟨k,k',m,n,e1,e2,h1⟩|⟨z,e2,ht,DR,h1⟩
   ·rw[e1]at hx;rw[e2]at hy
    have hx:=hx.int
    have hy:=hy.int
    cases hs:Zm b
    ·rw[hs]at h1
     replace h1:(if k=k' then tZ b k m n (λv=>K v [] [])else none)=some r:=h1
     split at h1
     ·rename_i hk;subst hk
      obtain⟨v,u,hK,dE,hVR⟩:=JV (P:=P) (w:=w) (M:=M) (ν:=ν) (t:=t) h1
      exact a8 (p3 ho (by rw[hx,hy];exact py w) (by rw[hx,hy];exact dE)) (hn _ [] [] _ _ _ _ hK (.refl hc.mem) (hVR _))
     ·cases h1
    ·rw[hs]at h1
     replace h1:Zl b k m n (λv=>K v [] [])=some r:=h1
     obtain⟨z,hK,dE⟩:=Tg (P:=P) (w:=w) (k':=k') (t:=t) h1
     exact a8 (p3 ho (by rw[hx,hy];exact py w) (by rw[hx,hy];exact dE)) (hn _ [] [] _ _ _ _ hK (.refl hc.mem) (.mkInt _ _))
   ·rw[e2]at hy
    have key:(eqGuard b t x y (a.eval x) (a.eval y)).run P w= .ok () w∧(binOp .eql t (a.eval x) (a.eval y)).run P w= .ok (.bool (pt τ x' z)) w∧(binOp .neq t (a.eval x) (a.eval y)).run P w= .ok (.bool (!pt τ x' z)) w:=by
     by_cases Mj:τ.isAgg=true
     ·simp only[VR]at hx hy
      exact hE.eq t τ ht DR Mj w M _ _ _ _ b x y hx hy
     ·have hl:=hE.ty t τ ht
      cases τ with
      |int k=>
       rw[hx.int,hy.int]
       refine⟨py w,?_,?_⟩
       ·simp[binOp,Op.intCmp,pt,jA];rfl
       ·simp[binOp,Op.intCmp,pt,jA];rfl
      |bool=>rw[hx.bool,hy.bool];exact⟨Be w,run_eql_bool hl.bool _ _,run_neq_bool hl.bool _ _⟩
      |str=>rw[hx.str,hy.str];exact⟨Dc w,by rw[Mr];simp[pt,EG],by rw[Ms];simp[pt,EG]⟩
      |slice e=>simp[Ty.comparable]at DR
      |unit=>simp[Ty.isAgg]at Mj
      |pair _ _=>simp[Ty.isAgg]at Mj
      |arr _ _=>simp[Ty.isAgg]at Mj
    obtain⟨hg,h2,h3⟩:=key
    rcases h1 with⟨rfl,hK⟩|⟨rfl,hK⟩
    ·exact a8 (p3 ho hg h2) (hn _ [] [] _ _ _ _ hK (.refl hc.mem) (.uc _))
    ·exact a8 (p3 ho hg h3) (hn _ [] [] _ _ _ _ hK (.refl hc.mem) (.uc _))
  ·cases h
 ·cases h
theorem Zy(hc:Core c σ a.tmps w M ν){u:UnOp}{t:TypeId}{x:Operand}(ho:o.op= .unOp u t x){K:ja α}
  (h:S5 u (σ.ρ x) (λv=>K v [] [])=some r) (hn:ga c σ a o w M ν K r next):o.wp P a w next Q:=by
 have hx:=hc.ev x
 unfold S5 at h
 split at h
 ·rename_i k n Zx
  rw[Zx]at hx
  refine a8 (wc ho (v:= .int k (k.wrap (0-n))) ?_) (hn _ [] [] _ _ _ _ h (.refl hc.mem) (by rw[EE];exact .mkInt _ _))
  rw[hx.int];simp[Op.unary,Op.intArith]
 ·rename_i k n Zx
  rw[Zx]at hx
  refine a8 (wc ho (v:= .int k (qL .xor k (if k.signed then-1 else k.max) n)) ?_) (hn _ [] [] _ _ _ _ h (.refl hc.mem) (.mkInt _ _))
  rw[hx.int,tY];simp[Op.unary,Op.intBits]
 ·rename_i b Zx
  rw[Zx]at hx
  refine a8 (wc ho (v:= .bool (!b)) ?_) (hn _ [] [] _ _ _ _ h (.refl hc.mem) (.uc _))
  rw[hx.bool];simp[Op.unary]
 ·cases h
end VM
end
section
namespace VM
open Go
variable{P:Program}{E:Env}{o:Oper}{a:Act}{w:World}{M:Nat→Prop}{ν:Nat→Value}{σ:St}{c:Ctx}{α:Type}{r:α}{next:Act→World→Prop}{Q:Exit→Act→World→Prop}
theorem oa{args:Array Operand}{ts:Array TypeId}{t:TypeId}{x:Operand}{n:Nat}(ho:o.op= .call {callee:= .builtin .len,args,argTypes:=ts})(ha:args.toList=[x])(_ht:ts.toList.head?=some t)
  (hl: ∀ty,(Builtin.len_ ts ty #[a.eval x]).run P w= .ok (goInt n) w):(execOp a.eval o).run P w= .ok (.value (.int .i64 n)) w:=by
 obtain⟨cs,hr⟩:=qR (P:=P) (ρ:=a.eval) ho (w:=w)
 rw[hr]
 have:args.map a.eval= #[a.eval x]:=by apply jq;simp[ha]
 rw[this]
 simp[builtin,hl,goInt]
theorem Zz{ts:Array TypeId}{t ty:TypeId}(ht:ts[0]? =some t)(hu:P.underlying t=some .string)(s:ByteArray):(Builtin.len_ ts ty #[.string s]).run P w= .ok (goInt s.size) w:=by
 simp[Builtin.len_,ht,run_underlying hu]
theorem ZA{ts:Array TypeId}{t ty e:TypeId}{n:Nat}(ht:ts[0]? =some t)(hu:P.underlying t=some (.array n e))(v:Value):(Builtin.len_ ts ty #[v]).run P w= .ok (goInt n) w:=by
 simp[Builtin.len_,ht,run_underlying hu]
theorem xq{ts:Array TypeId}{t ty e:TypeId}(ht:ts[0]? =some t)(hu:P.underlying t=some (.slice e))(ad:Option Addr)(n cp:Nat):(Builtin.len_ ts ty #[.slice ad n cp]).run P w= .ok (goInt n) w:=by
 simp[Builtin.len_,ht,run_underlying hu]
theorem ER.VI{e:Ty}{l:List e.den}{v:Value}(h:ER w M v (.own e l)): ∃ad cp,v= .slice ad l.length cp:=by
 simp only[ER]at h
 rcases h with⟨rfl,a,hv⟩|⟨b,cs,t,cap,hv,_⟩
 ·exact⟨a,0,hv⟩
 ·exact⟨_,cap,hv⟩
theorem ER.VJ{e:Ty}{l:List e.den}{v:Value}(h:ER w M v (.oI e l)): ∃ad cp,v= .slice ad l.length cp:=by
 simp only[ER]at h
 have h:=h.1
 simp only[Rd,fh,eS]at h
 obtain⟨a,cap,hv,_⟩:=h
 exact⟨a,cap,hv⟩
theorem ahf(hE:EnvTy P E)(hc:Core c σ a.tmps w M ν){args:Array Operand}{ts:Array TypeId}{x:Operand}(ho:o.op= .call {callee:= .builtin .len,args,argTypes:=ts})(ha:args.toList=[x]){K:ja α}{τ:Ty}
  (ht:(ts.toList.head?).bind E.ty=some τ) (h:Mc τ (σ.ρ x) σ.H K=some r) (hn:ga c σ a o w M ν K r next):o.wp P a w next Q:=by
 obtain⟨t,vB,Vg⟩:=s4.1 ht
 have ZB:ts[0]? =some t:=by rw[←vB,←gR,List.head?_eq_getElem?]
 have hl:=hE.ty t τ Vg
 have hv:=hc.ev x
 unfold Mc at h
 split at h
 ·rename_i e e' l hx
  obtain⟨_,hu,_⟩:=hl.slice
  rw[hx]at hv
  simp only[VR]at hv
  have hv:=V.slice.1 hv
  simp only[Rd,fh,eS]at hv
  obtain⟨ad,cap,hv,_⟩:=hv
  refine a8 (oa ho ha vB (n:=List.length l) λty=>by rw[hv];exact xq ZB hu _ _ _) (hn _ [] [] _ _ _ _ h (.refl hc.mem) (.mkInt _ _))
 ·rename_i n e n' e' l hx
  obtain⟨_,hu,_⟩:=hl.arr
  refine a8 (oa ho ha vB (n:=n) λty=>ZA ZB hu _) (hn _ [] [] _ _ _ _ h (.refl hc.mem) (.mkInt _ _))
 ·rename_i s hx
  rw[hx]at hv
  refine a8 (oa ho ha vB (n:=ByteArray.size s) λty=>by rw[hv.str];exact Zz ZB hl.str _) (hn _ [] [] _ _ _ _ h (.refl hc.mem) (.mkInt _ _))
 ·rename_i e hx
  obtain⟨_,hu,_⟩:=hl.slice
  rw[hx]at hv
  simp only[VR]at hv
  obtain⟨ad,hv⟩:=hv
  refine a8 (oa ho ha vB (n:=0) λty=>by rw[hv];exact xq ZB hu _ _ _) (hn _ [] [] _ _ _ _ h (.refl hc.mem) (.mkInt _ _))
 ·rename_i e id hx
  obtain⟨_,hu,_⟩:=hl.slice
  rw[hx]at hv
  simp only[VR]at hv
  split at h
  ·rename_i e' l bf
   obtain⟨ad,cap,hh⟩:=(hc.mem.kZ id _ bf).VI
   refine a8 (oa ho ha vB (n:=l.length) λty=>by rw[hv.2,hh];exact xq ZB hu _ _ _) (hn _ [id] [] _ _ _ _ h (.refl hc.mem) (.mkInt _ _))
  ·rename_i e' l bf
   obtain⟨ad,cap,hh⟩:=(hc.mem.kZ id _ bf).VJ
   refine a8 (oa ho ha vB (n:=l.length) λty=>by rw[hv.2,hh];exact xq ZB hu _ _ _) (hn _ [id] [] _ _ _ _ h (.refl hc.mem) (.mkInt _ _))
  ·cases h
 ·cases h
theorem Mt{H:Nat→Option bl}(up:Bool): ∀(xs:List bC) (x:bC) (v:Value) (vs:List Value) (K:bC→Option α),VR w M H ν x v→jr w M H ν xs vs→Y3 up x xs K=some r→
  ∃x' v',K x'=some r∧(vs.foldlM (if up then Builtin.max2 else Builtin.min2) v).run P w= .ok v' w∧VR w M H ν x' v'
 |[],x,v,[],K,hx,_,h=>⟨x,v,h,by simp,hx⟩
 |[],_,_,_::_,_,_,hs,_=>by simp[jr]at hs
 |_::_,_,_,[],_,_,hs,_=>by simp[jr]at hs
 |y::xs,x,v,u::vs,K,hx,hs,h=>by
  simp only[jr]at hs
  obtain⟨hy,hs⟩:=hs
  unfold Y3 at h
  obtain⟨k,m,e1,h1⟩:=m9 h
  obtain⟨k',n,e2,h2⟩:=m9 h1
  clear h h1
  split at h2
  ·rename_i hk
   subst hk
   rw[e1]at hx;rw[e2]at hy
   have hx:=hx.int
   have hy:=hy.int
   obtain⟨x',v',hK,dE,hV⟩:=Mt up xs _ (.int k (cond up (mx m n) (mn m n))) vs K (.mkInt _ _) hs h2
   refine⟨x',v',hK,?_,hV⟩
   rw[List.foldlM_cons,Sem.run_bind]
   have:((if up then Builtin.max2 else Builtin.min2) v u).run P w= .ok (.int k (cond up (mx m n) (mn m n))) w:=by
    rw[hx,hy]
    cases up
    ·simp[Builtin.min2,Rx]
    ·simp[Builtin.max2,Vt]
   rw[this]
   exact dE
  ·cases h2
theorem afX(hc:Core c σ a.tmps w M ν)(up:Bool){args:Array Operand}{ts:Array TypeId}{x:Operand}{xs:List Operand}(ho:o.op= .call {callee:= .builtin (if up then .max else .min),args,argTypes:=ts})(ha:args.toList=x::xs){K:ja α}
  (h:Y3 up (σ.ρ x) (xs.map σ.ρ) (λv=>K v [] [])=some r) (hn:ga c σ a o w M ν K r next):o.wp P a w next Q:=by
 obtain⟨x',v',hK,dE,hV⟩:=Mt (P:=P) up (xs.map σ.ρ) (σ.ρ x) (a.eval x) (xs.map a.eval) _ (hc.ev x) (hc.evs xs) h
 refine a8 ?_ (hn _ [] [] _ _ _ _ hK (.refl hc.mem) hV)
 obtain⟨cs,hr⟩:=qR (P:=P) (ρ:=a.eval) ho (w:=w)
 rw[hr]
 have hm:(args.map a.eval).toList=a.eval x::xs.map a.eval:=by simp[ha]
 cases up
 ·simp only[iW,eT,builtin,Builtin.min_,hm,Sem.run_bind]at dE ⊢
  rw[dE];simp
 ·simp only[gA,builtin,Builtin.max_,hm,Sem.run_bind]at dE ⊢
  rw[dE];simp
theorem Hk{ρ:Operand→Value}{t:TypeId}{x i:Operand}(ho:o.op= .index t x i){k:IntKind}{n:Int}{s:ByteArray}
  (hu:P.underlying t=some .string) (hx:ρ x= .string s) (hi:ρ i= .int k n) (h0:0≤n) (h1:n<(s.size:Int)):
  (execOp ρ o).run P w= .ok (.value (.int .u8 ((s.data.getD n.toNat 0).toNat:Int))) w:=by
 have e9:n.toNat<s.size:=ω
 have hs:s[n.toNat]? =some (s[n.toNat]'e9):=by simp[e9]
 have he:s[n.toNat]'e9=s.data.getD n.toNat 0:=by
  have wi:n.toNat<s.data.size:=e9
  rw[Array.getD,dif_pos wi];rfl
 simp[execOp,ho,hx,hi,Instr.index,asIntOf,run_underlying hu,h0,hs,he]
theorem VK(hE:EnvTy P E)(hc:Core c σ a.tmps w M ν){t:TypeId}{x i:Operand}(ho:o.op= .index t x i){K:ja α}{τ:Ty}(ht:E.ty t=some τ)
  (h:vW τ (σ.ρ x) (σ.ρ i) (λv=>K v [] [])=some r) (hn:ga c σ a o w M ν K r next):o.wp P a w next Q:=by
 unfold vW at h
 obtain⟨k,n,hi,h2⟩:=m9 h
 clear h
 have h:=h2
 clear h2
 have RE:=hc.ev i
 rw[hi]at RE
 have RE:=RE.int
 have hv:=hc.ev x
 have zQ:=hE.ty t τ ht
 split at h
 ·rename_i len e υ l hx
  obtain⟨e',PM,hle⟩:=zQ.arr
  obtain⟨e1,h⟩:=bB h
  subst e1
  obtain⟨lU,h⟩:=cB h
  obtain⟨h0,h1⟩:=ud lU
  rw[hx]at hv
  simp only[VR]at hv
  obtain⟨cs,hu,hr⟩:=hv.agg rfl
  have eO:=hr.idx (i:=n.toNat) ω
  refine a8 (Hg ho PM hle hu RE h0 h1 eO) (hn _ [] [] _ _ _ _ h (.refl hc.mem) ?_)
  simp only[VR]
  exact V.cK eO
 ·rename_i s hx
  obtain⟨lU,h⟩:=cB h
  obtain⟨h0,h1⟩:=ud lU
  rw[hx]at hv
  refine a8 (Hk ho zQ.str hv.str RE h0 h1) (hn _ [] [] _ _ _ _ h (.refl hc.mem) (.mkInt _ _))
 ·cases h
theorem oK(τ:Ty):τ.dj.length=τ.size:=(Rd.zero default (λ_=>False) τ).length
theorem Df{z:Array Value}{n i s:Nat}(hz:z.size=s)(hi:i*s+s≤n):((madeCells z n).toList.drop (i*s)).take s=z.toList:=by
 apply zt
 intro j
 rw[lO]
 split
 ·rename_i hj
  rw[lP,gR,gR]
  simp only[madeCells,Array.getElem?_map]
  rw[Array.getElem?_range,aj ω]
  simp only[Option.map_some]
  have:(i*s+j)%z.size=j:=by rw[hz,EB,Nat.mul_add_mod,Nat.mod_eq_of_lt hj]
  rw[this,LN ω,getElem!_pos z j ω]
 ·rename_i hj
  rw[gR,LV ω]
theorem qS.made(w:World)(M:Nat→Prop)(e:Ty){n l:Nat}(h:l*e.size≤n):qS w M e (madeCells (cK e e.dj).cells n).toList (List.replicate l e.zero):=by
 intro i hi
 rw[cR]at hi
 have:=ew (s:=e.size) hi
 rw[Df (by rw[←bI,gT,oK]) ω,gT,LW]
 exact Rd.zero w M e
theorem Bj{ρ:Operand→Value}{t:TypeId}{x y:Operand}(ho:o.op= .makeSlice t x y){v:Value}{w':World}(h:(Instr.makeSlice t (ρ x) (ρ y)).run P w= .ok v w'):(execOp ρ o).run P w= .ok (.value v) w':=by
 simp[execOp,ho,h]
theorem JW(hE:EnvTy P E)(hc:Core c σ a.tmps w M ν){t:TypeId}{x y:Operand}(ho:o.op= .makeSlice t x y){K:ja α}{e:Ty}(ht:E.ty t=some (.slice e)){id:Nat}
  (h:vS (σ.ρ x) (λ_ l=>vS (σ.ρ y) λ_ c=>cond (jZ l c)
   (qN σ.H id (.own e []) (K (.ref id) [id] [(id,some (.own e (List.replicate l.toNat e.zero)))])) none)=some r) (hn:ga c σ a o w M ν K r next):o.wp P a w next Q:=by
 obtain⟨k,l,hx,h1⟩:=m9 h
 obtain⟨k',n,hy,h2⟩:=m9 h1
 clear h h1
 obtain⟨hk,h⟩:=cB h2
 obtain⟨bf,h⟩:=ll h
 rw[HX]at hk
 obtain⟨h0,h1,h3⟩:=bx hk
 simp only[zG]at h3
 obtain⟨e',hu,hle⟩:=(hE.ty t _ ht).slice
 obtain⟨i,hi,hs,hz,hb⟩:=hle.base
 have JX:=hc.ev x
 have Dd:=hc.ev y
 rw[hx]at JX;rw[hy]at Dd
 have ahg:(i.bytes:Int)*n≤281474976710656:=by
  have h4:(i.bytes:Int)≤2048:=ω
  have:(i.bytes:Int)*n≤2048*n:=zh h4 ω
  omega
 have dE:=run_make (P:=P) w t e' i _ hu hi hz k k' l n h0 h1 ahg ω
 have hlen:(List.replicate l.toNat e.zero).length=l.toNat:=cR
 have il:=Tr.row hc.mem bf e' (e:=e) (cs:=madeCells (cK e e.dj).cells (n.toNat*i.size)) (l:=List.replicate l.toNat e.zero) (cap:=n.toNat) (by rw[hlen];omega) (by simp[maxLen];omega)
  (by rw[size_madeCells,hs]) (qS.made w M e (vN ω ω))
 refine a8 (Bj ho (by rw[JX.int,Dd.int];exact dE)) (hn _ _ _ _ _ _ _ h il ?_)
 simp only[VR]
 exact⟨by show bY σ.H id _ id≠none;rw[ay];simp,by simp[dh]⟩
end VM
end
