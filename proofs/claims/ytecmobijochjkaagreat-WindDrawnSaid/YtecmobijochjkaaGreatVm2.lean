/- A part of the proof of WindDrawn of layer 21: a machine that reads a function of the program as an equation between values. -/
import Derived.Test.YtecmobijochjkaaGreatVm1
set_option linter.all false
section
namespace VM
open Go
variable{P:Program}{E:Env}{o:Oper}{a:Act}{w:World}{M:Nat→Prop}{ν:Nat→Value}{σ:St}{c:Ctx}{α:Type}{r:α}{next:Act→World→Prop}{Q:Exit→Act→World→Prop}
theorem a8{v:Value}{w':World}(h:(execOp a.eval o).run P w= .ok (.value v) w')(hn:next (a.put o.dst v) w'):o.wp P a w next Q:=by
 unfold Oper.wp Oper.upon;rw[h];exact hn
theorem qK{w':World}(h:(execOp a.eval o).run P w= .ok .skip w')(hn:next (a.put o.dst undef) w'):o.wp P a w next Q:=by
 unfold Oper.wp Oper.upon;rw[h];exact hn
def fX(c:Ctx)(σ:St)(a:Act)(o:Oper)(w:World)(M:Nat→Prop)(ν:Nat→Value)(K:iU α)(r:α)(next:Act→World→Prop):Prop:=
 ∀v rd ups v' w' M' ν',K v rd ups=some r→Tr c σ.H w M ν (c3 σ.H ups) w' M' ν'→VR w' M' (c3 σ.H ups) ν' v v'→next (a.put o.dst v') w'
theorem Core.ev(h:Core c σ a.tmps w M ν)(x:Operand):VR w M σ.H ν (σ.ρ x) (a.eval x):=h.op a.defers x
theorem mZ{x:bC}{k:IntKind→Int→Option α}(h:vJ x k=some r): ∃(i:IntKind) (n:Int),x= .val (.int i) n∧k i n=some r:=by
 unfold vJ at h
 split at h
 ·exact⟨_,_,rfl,h⟩
 ·cases h
theorem VR.int{H:Nat→Option bh}{k:IntKind}{n:Int}{v:Value}(h:VR w M H ν (.val (.int k) n) v):v= .int k n:=by
 simp only[VR,V,Ty.isAgg,iQ,eQ,Rd,fe,eP]at h;exact h
theorem VR.bool{H:Nat→Option bh}{b:Bool}{v:Value}(h:VR w M H ν (.val .bool b) v):v= .bool b:=by
 simp only[VR,V,Ty.isAgg,iQ,eQ,Rd,fe,eP]at h;exact h
theorem VR.str{H:Nat→Option bh}{b:ByteArray}{v:Value}(h:VR w M H ν (.val .str b) v):v= .string b:=by
 simp only[VR,V,Ty.isAgg,iQ,eQ,Rd,fe,eP]at h;exact h
theorem VR.mkInt{H:Nat→Option bh}(k:IntKind)(n:Int):VR w M H ν (.val (.int k) n) (.int k n):=by simp[VR,V,Ty.isAgg,Rd]
theorem VR.tS{H:Nat→Option bh}(b:Bool):VR w M H ν (.val .bool b) (.bool b):=by simp[VR,V,Ty.isAgg,Rd]
theorem VR.mkStr{H:Nat→Option bh}(b:ByteArray):VR w M H ν (.val .str b) (.string b):=by simp[VR,V,Ty.isAgg,Rd]
theorem Q8(hc:Core c σ a.tmps w M ν){x:Operand}(ho:o.op= .move x∨o.op= .assign x){K:iU α}(h:K (σ.ρ x) [] []=some r)(hn:fX c σ a o w M ν K r next):o.wp P a w next Q:=by
 have hr:(execOp a.eval o).run P w= .ok (.value (a.eval x)) w:=by
  rcases ho with ho|ho
  ·simp[execOp,ho]
  ·simp[execOp,ho]
 exact a8 hr (hn _ _ _ _ _ _ _ h (.refl hc.mem) (hc.ev x))
theorem YW(hc:Core c σ a.tmps w M ν){x y z:Operand}(ho:o.op= .pick x y z){K:iU α}{t:Bool}(hx:σ.ρ x= .val .bool t)(h:cond t (K (σ.ρ y) [] []) (K (σ.ρ z) [] [])=some r)
  (hn:fX c σ a o w M ν K r next):o.wp P a w next Q:=by
 have hv:=hc.ev x
 rw[hx]at hv
 refine a8 (LV ho hv.bool) ?_
 cases t
 ·exact hn _ _ _ _ _ _ _ h (.refl hc.mem) (hc.ev z)
 ·exact hn _ _ _ _ _ _ _ h (.refl hc.mem) (hc.ev y)
theorem kU{H:Nat→Option bh}{id:Nat}{e:bh}{K:Option α}(h:qE H id e K=some r):H id=none∧K=some r:=by
 unfold qE at h
 split at h
 ·rename_i h';exact⟨h',h⟩
 ·cases h
theorem VR.afr{H:Nat→Option bh}{id:Nat}{τ:Ty}{x:τ.den}{b:Nat}(bg:H id=some (.obj τ x))(hν:ν id= .pointer (some ⟨b,0,none⟩)):VR w M H ν (.jg id []) (.pointer (some ⟨b,0,none⟩)):=by
 simp only[VR]
 exact⟨_,bg,trivial,b,hν,rfl⟩
theorem VR.U1{H:Nat→Option bh}{id:Nat}{τ:Ty}{x:τ.den}{q:List Step}{j b:Nat}(bg:H id=some (.ga τ x q j))(hν:ν id= .pointer (some ⟨b,0,none⟩)):VR w M H ν (.jg id []) (.pointer (some ⟨b,0,none⟩)):=by
 simp only[VR]
 exact⟨_,bg,trivial,b,hν,rfl⟩
theorem gM(τ:Ty):(cJ τ τ.di).cells.toList=τ.di:=GR (Rd.zero default (λ_=>False) τ)
theorem LW: ∀{τ:Ty} {n:Nat} {a:Ty},Jp τ n=some a→ ∃l m,τ.di=l++(a.di++m)∧l.length=rD τ n:=by
 intro τ
 induction τ with
 |pair a b _ U0=>
  intro n c h
  cases n with
  |zero=>cases h;exact⟨[],b.di,rfl,rfl⟩
  |succ n=>
   obtain⟨l,m,h1,h2⟩:=U0 (n:=n) (a:=c) h
   refine⟨a.di++l,m,by simp only[Ty.di];rw[h1,br],?_⟩
   rw[aS,h2,(Rd.zero default (λ_=>False) a).length];rfl
 |_=>intro n c h;simp[Jp]at h
theorem zF: ∀{p:List Step} {τ υ:Ty},gH p τ υ=true→ ∃l m,τ.di=l++(υ.di++m)∧l.length=cE p τ
 |[],τ,υ,h=>by
  have h:=bz h
  subst h
  exact⟨[],[],by simp,rfl⟩
 | .kq n::p,τ,υ,h=>by
  unfold gH at h
  split at h
  ·rename_i a ha
   obtain⟨l,m,h1,h2⟩:=LW ha
   obtain⟨l',m',h3,h4⟩:=zF h
   obtain⟨_,_,hf⟩:=s7 ha τ.zero
   have:=hf.eq.1
   subst this
   refine⟨l++l',m'++m,by rw[h1,h3];simp,?_⟩
   rw[aS,h2,h4];rfl
  ·cases h
 | .idx _::_,_,_,h=>by simp[gH]at h
theorem HN{p:List Step}{τ e:Ty}(h:gH p τ (.slice e)=true):τ.di[cE p τ]? =some (.slice none 0 0):=by
 obtain⟨l,m,h1,h2⟩:=zF h
 rw[h1,oq ω,h2,sZ];rfl
theorem cA{b:Bool}{K:Option α}(h:cond b K none=some r):b=true∧K=some r:=by
 cases b
 ·cases h
 ·exact⟨rfl,h⟩
theorem Q9{τ:Ty}{q:List Step}{e:Ty}(h:lkT E τ=some (q,e)):gH q τ (.slice e)=true:=by
 unfold lkT at h
 split at h
 ·rename_i υ q' e' _ _
  cases hd:decide (υ=τ)<;>rw[hd]at h
  ·cases h
  ·simp only[ak]at h
   cases hp:gH q' τ (.slice e')<;>rw[hp]at h
   ·cases h
   ·cases h;exact hp
 ·cases h
theorem tc{τ:Ty}{id:Nat}{q:List Step}{e:Ty}(h:Jr E τ id=some (q,e)):gH q τ (.slice e)=true:=by
 unfold Jr at h
 split at h
 ·exact Q9 (cA h).2
 ·cases h
theorem EA{H:Nat→Option bh}{id:Nat}{τ:Ty}{x:τ.den}{q:List Step}{e:Ty}{K:iU α}(h:CS H id τ x q e K=some r):H id=none∧H (id+1)=none∧K (.jg id []) [id,id+1] [(id,some (.ga τ x q (id+1))),(id+1,some (.own e []))]=some r:=by
 unfold CS at h
 obtain⟨h1,h⟩:=kU h
 obtain⟨h2,h⟩:=kU h
 exact⟨h1,h2,h⟩
theorem SD{H:Nat→Option bh}{i j:Nat}{u v:Option bh}(h:i≠j):bW (bW H i u) j v=bW (bW H j v) i u:=by
 funext k
 by_cases hi:k=i
 ·subst hi;rw[az _ _ h,ay,ay]
 ·by_cases hj:k=j
  ·subst hj;rw[ay,az _ _ hi,ay]
  ·rw[az _ _ hj,az _ _ hi,az _ _ hi,az _ _ hj]
theorem yt{H:Nat→Option bh}{i:Nat}{u v:Option bh}:bW (bW H i u) i v=bW H i v:=by
 funext k
 by_cases hi:k=i
 ·subst hi;rw[ay,ay]
 ·rw[az _ _ hi,az _ _ hi,az _ _ hi]
theorem Tr.U2{H:Nat→Option bh}(h:Mem c H w M ν){id k:Nat}(hk:H k=none){τ:Ty}{x:τ.den}(bg:H id=some (.obj τ x)){b:Nat}{cs:Array Value}{t:TypeId}(hb:ν id= .pointer (some ⟨b,0,none⟩))(hg:w.heap[b]? =some (.cells cs t (0,0)))
  {q:List Step} {e:Ty} (hq:gH q τ (.slice e)=true) {ad:Option Addr} (hz:cs.toList[cE q τ]? =some (.slice ad 0 0)):
  Tr c H w M ν (c3 H [(id,some (.ga τ x q k)),(k,some (.own e []))]) w M (dg ν k (.slice ad 0 0)):=by
 have jH:k≠id:=λe=>by rw[e,bg]at hk;cases hk
 have h2:=Tr.nothing h hk e ad
 have hd2:bW H k (some (.own e [])) id=some (.obj τ x):=by rw[az _ _ (eE jH)];exact bg
 have hν:dg ν k (.slice ad 0 0) id= .pointer (some ⟨b,0,none⟩):=by unfold dg;rw[ah (eE jH)];exact hb
 have hν1:dg ν k (.slice ad 0 0) k= .slice ad 0 0:=by simp[dg]
 have he:=h2.mem.kP id _ hd2
 simp only[ER]at he
 obtain⟨b',cs',t',eV,hg',hM,kM⟩:=he
 rw[hν]at eV;cases eV
 rw[hg]at hg';cases hg'
 have h3:=Tr.GW h2.mem hd2 trivial (e':= .ga τ x q k) trivial rfl (λ_ _=>by simp) (by
   rw[hν];simp only[ER]
   exact⟨_,cs,t,cs.toList,.slice ad 0 0,rfl,hg,hM,kM,(LP hz).symm,rfl,e,hq⟩)
  (fun τ' x' p' j' hl=>by
   cases hl
   refine⟨by rw[ay];simp,_,hν,?_⟩
   rw[hν1,cell_of hg,←gL];exact hz)
 rw[SD (i:=k) (j:=id) jH]at h3
 exact h2.trans h3
theorem Tr.CS{H:Nat→Option bh}(h:Mem c H w M ν){id:Nat}(bg:H id=none)(pd:H (id+1)=none)(t:TypeId){τ:Ty}{cs:Array Value}{x:τ.den}(hr:Rd w M τ cs.toList x){q:List Step}{e:Ty}(hq:gH q τ (.slice e)=true){ad:Option Addr}
  (hz:cs.toList[cE q τ]? =some (.slice ad 0 0)):
  ∃M' ν',Tr c H w M ν (c3 H [(id,some (.ga τ x q (id+1))),(id+1,some (.own e []))]) (w.alloc (.cells cs t)) M' ν'∧ν' id= .pointer (some ⟨w.heap.size,0,none⟩):=by
 have h1:=Tr.var h bg t hr
 have h2:=Tr.U2 h1.mem (id:=id) (k:=id+1) (by rw[az _ _ ω];exact pd) (ay _ _ _) (by simp[dg]) (Ew w _) hq hz
 have e1:c3 (bW H id (some (.obj τ x))) [(id,some (.ga τ x q (id+1))),(id+1,some (.own e []))]=c3 H [(id,some (.ga τ x q (id+1))),(id+1,some (.own e []))]:=by
  show bW (bW (bW H id _) id _) (id+1) _=bW (bW H id _) (id+1) _
  rw[yt]
 rw[e1]at h2
 exact⟨_,_,h1.trans h2,by simp[dg]⟩
theorem U3(hE:EnvTy P E)(hc:Core c σ a.tmps w M ν){t:TypeId}(ho:o.op= .alloc t){K:iU α}{τ:Ty}(ht:E.ty t=some τ){id:Nat}
  (h:(match Jr E τ id with
   |some (q,e)=>CS σ.H id τ τ.zero q e K
   |none=>qE σ.H id (.obj τ τ.zero) (K (.jg id []) [id] [(id,some (.obj τ τ.zero))]))=some r) (hn:fX c σ a o w M ν K r next):o.wp P a w next Q:=by
 obtain⟨i,hi,hs,hz,_⟩:=(hE.ty t τ ht).base
 have hr:Rd w M τ (cJ τ τ.di).cells.toList τ.zero:=by rw[gM];exact Rd.zero w M τ
 split at h
 ·rename_i q e sF
  obtain⟨bg,pd,h⟩:=EA h
  obtain⟨M',ν',ic,hν⟩:=Tr.CS hc.mem bg pd t hr (tc sF) (by rw[gM];exact HN (tc sF))
  refine a8 (zD ho hi hz w) (hn _ _ _ _ _ M' ν' h ic ?_)
  exact VR.U1 (by show bW _ (id+1) _ id=_;rw[az _ _ ω,ay]) hν
 ·obtain⟨bg,h⟩:=kU h
  refine a8 (zD ho hi hz w) (hn _ _ _ _ _ _ _ h (Tr.var hc.mem bg t hr) (VR.afr (ay _ _ _) (by simp[dg])))
theorem Ra(hE:EnvTy P E)(hc:Core c σ a.tmps w M ν){t:TypeId}{x:Operand}(ho:o.op= .box t x){K:iU α}{τ:Ty}{id:Nat}
  (h:lN true (σ.ρ x) σ.H τ (λy rd ups=>qE σ.H id (.obj τ y) (K (.jg id []) (id::rd) (ups++[(id,some (.obj τ y))])))=some r) (hn:fX c σ a o w M ν K r next):o.wp P a w next Q:=by
 obtain⟨y,rd,ups,M',h,ic,hV,hz,_⟩:=nP (.refl _) hc.mem (hc.ev x) h
 obtain⟨bg,h⟩:=kU h
 have agG:c3 σ.H ups id=none:=hz.none bg
 have vU:=ic.trans (Tr.var ic.mem agG t hV.cells)
 refine a8 (Ex ho w) (hn _ _ _ _ _ (λb=>M' b∨b=w.heap.size) (dg ν id (.pointer (some ⟨w.heap.size,0,none⟩))) h ?_ ?_)
 ·rw[gm];exact vU
 ·rw[gm];exact VR.afr (ay _ _ _) (by simp[dg])
theorem agH(hE:EnvTy P E)(hc:Core c σ a.tmps w M ν){t:TypeId}{x:Operand}(ho:o.op= .box t x){K:iU α}{τ:Ty}{id:Nat}
  (h:(match Jr E τ id,σ.ρ x with
   |some ([.kq m],e),.Jq υ y n=>cond (Nat.beq m n) (c7 υ τ y λy=>CS σ.H id τ y [.kq m] e K) (lN true (σ.ρ x) σ.H τ (λy rd ups=>qE σ.H id (.obj τ y) (K (.jg id []) (id::rd) (ups++[(id,some (.obj τ y))]))))
   |_,_=>lN true (σ.ρ x) σ.H τ (λy rd ups=>qE σ.H id (.obj τ y) (K (.jg id []) (id::rd) (ups++[(id,some (.obj τ y))]))))=some r) (hn:fX c σ a o w M ν K r next):o.wp P a w next Q:=by
 split at h
 ·rename_i m e υ y n sF hx
  cases hb:Nat.beq m n
  ·rw[hb]at h
   exact Ra hE hc ho h hn
  ·rw[hb]at h
   have EB:=fT hb
   subst EB
   simp only[ak]at h
   obtain⟨e1,h⟩:=bB h
   subst e1
   obtain⟨bg,pd,h⟩:=EA h
   have hv:=hc.ev x
   rw[hx]at hv
   simp only[VR]at hv
   obtain⟨hV,cs,ad,hva,hz⟩:=hv
   have JA:(a.eval x).cells.toList=cs.toList:=by rw[hva];rfl
   obtain⟨M',ν',ic,hν⟩:=Tr.CS hc.mem bg pd t hV.cells (tc sF) (ad:=ad) (by rw[JA];simpa [cE]using hz)
   refine a8 (Ex ho w) (hn _ _ _ _ _ M' ν' h ic ?_)
   exact VR.U1 (by show bW _ (id+1) _ id=_;rw[az _ _ ω,ay]) hν
 ·exact Ra hE hc ho h hn
theorem tT{i:Int}{n:Nat}(h:ba i n=true):0≤i∧i<(n:Int):=by rw[UU]at h;simpa using h
theorem mf{b:Bool}{K:Option α}(h:cond b none K=some r):b=false∧K=some r:=by
 cases b
 ·exact⟨rfl,h⟩
 ·cases h
theorem B2(hm:Mem c σ.H w M ν){x:bC}{u:Value}(hv:VR w M σ.H ν x u){K:(υ:Ty)→υ.den→List Nat→Option α}(h:kL x σ.H K=some r):
  ∃υ y rd,K υ y rd=some r∧ ∃b off cs,u= .pointer (some ⟨b,off,none⟩)∧At w b off cs∧Rd w M υ cs y:=by
 unfold kL at h
 split at h
 ·simp only[VR]at hv
  obtain⟨b,off,rfl,_,_,cs,ha,hr⟩:=hv
  exact⟨_,_,_,h,b,off,cs,rfl,ha,hr⟩
 ·rename_i id p
  simp only[VR]at hv
  obtain⟨e,he,nA⟩:=hv
  have mA:=hm.kP id e he
  rw[he]at h
  cases e with
  |obj τ x=>
   obtain⟨υ,y,o',hp,hK⟩:=jV h
   simp only[AR]at nA
   obtain⟨hi,b,hb,rfl⟩:=nA
   simp only[ER]at mA
   obtain⟨b',cs,t,eV,hg,_,hr⟩:=mA
   rw[hb]at eV;cases eV
   have:=hp.eq.2
   subst this
   exact⟨υ,y,_,hK,b,_,_,rfl,At.of_block hg _ _,hp.rd hi hr⟩
  |own e l=>
   simp only[AR]at nA
   obtain⟨i,q,rfl,GY,hi,b,n,cp,hb,rfl⟩:=nA
   obtain⟨υ,y,o',hp,hK⟩:=jV h
   simp only[ER]at mA
   rcases mA with⟨rfl,_⟩|⟨b',cs,t,cap,eV,hg,_,UH,hl,GD,hs,hr⟩
   ·simp at GY
   ·rw[hb]at eV;cases eV
    have:=hp.eq.2
    subst this
    have h1:=hr i GY
    rw[←kB l i e.zero GY]at h1
    have h2:=hp.rd hi h1
    have h3:=hp.bound hi
    rw[qv,jx,qw,ir ω]at h2
    exact⟨υ,y,_,hK,b,_,_,rfl,At.of_block hg _ _,h2⟩
  |ot e l=>
   simp only[AR]at nA
   obtain⟨i,q,rfl,GY,hi,b,n,cp,hb,rfl⟩:=nA
   obtain⟨υ,y,o',hp,hK⟩:=jV h
   simp only[ER]at mA
   have kM:=mA.1
   simp only[Rd,fe,eP]at kM
   obtain⟨a0,cap,ha0,_,hr⟩:=kM
   obtain⟨b',off,rfl,_,_,cs,pR,hrr⟩:=hr i GY
   rw[hb]at ha0;cases ha0
   have:=hp.eq.2
   subst this
   rw[gh]at pR
   have alb:Rd w M e cs (List.getD l i e.zero):=by rw[kB l i e.zero GY];exact hrr
   have h2:=hp.rd hi alb
   have h3:=hp.bound hi
   have YV:=alb.length
   refine⟨υ,y,_,hK,b,_,_,rfl,?_,h2⟩
   intro j v hj
   rw[lE]at hj
   split at hj
   ·rw[lF]at hj
    have:=pR _ v hj
    rwa [←oI]at this
   ·cases hj
  |ga _ _ _ _=>cases h
  |gone=>cases h
 ·cases h
theorem Mem.linked{H:Nat→Option bh}(hm:Mem c H w M ν){id:Nat}{τ:Ty}{x:τ.den}{q:List Step}{j:Nat}(bg:H id=some (.ga τ x q j)):
  ∃b cs t rX e,ν id= .pointer (some ⟨b,0,none⟩)∧w.heap[b]? =some (.cells cs t (0,0))∧M b∧Rd w M τ rX x∧cs.toList=e8 rX (cE q τ) [ν j]∧(ν j).oneCell'=true∧gH q τ (.slice e)=true∧cE q τ<rX.length∧H j≠none:=by
 have mA:=hm.kP id _ bg
 simp only[ER]at mA
 obtain⟨b,cs,t,rX,u,hb,hg,hM,hr,JA,h1,e,hq⟩:=mA
 obtain⟨hj,b',eV,Rb⟩:=hm.ga id _ _ _ _ bg
 rw[hb]at eV;cases eV
 obtain⟨y,o,hp⟩:=s8 hq x
 have eZ:cE q τ<rX.length:=by
  have:=hp.bound (kC hq).1
  have h2:=hp.eq.2
  have h3:=hr.length
  have:(Ty.slice e).size=1:=rfl
  omega
 have hu:u=ν j:=by
  rw[cell_of hg,←gL,JA,DE eZ]at Rb
  exact mQ Rb
 subst hu
 exact⟨b,cs,t,rX,e,hb,hg,hM,hr,JA,h1,hq,eZ,hj⟩
theorem yu{H:Nat→Option bh}(hm:Mem c H w M ν){id:Nat}{τ:Ty}{x:τ.den}{q:List Step}{j:Nat}(bg:H id=some (.ga τ x q j)){k:τ.den→iP→Option α}(h:CR j q τ x H k=some r):
  ∃z ups M',k z ups=some r∧Tr c H w M ν (c3 H ups) w M' ν∧Fz H (c3 H ups)∧((∃e l,H j=some (.ot e l)∧ups=[])∨ ∃e l,H j=some (.own e l)∧ups=[(j,some (.ot e l))])∧ ∃b cs t,ν id= .pointer (some ⟨b,0,none⟩)∧w.heap[b]? =some (.cells cs t (0,0))∧M' b∧Rd w M' τ cs.toList z:=by
 obtain⟨b,cs,t,rX,e0,hb,hg,hM,hr,JA,h1,hq,eZ,hj⟩:=hm.linked bg
 have U4:=(kC hq).1
 unfold CR at h
 split at h
 ·rename_i e l GI
  obtain⟨z,hz,EC,GH,xL⟩:=oM h
  obtain⟨M',ic,hV,hM'⟩:=Tr.freeze hm GI
  refine⟨z,_,M',hz,ic,λi=> ?_,.inr ⟨e,l,GI,rfl⟩,b,cs,t,hb,hg,?_,?_⟩
  ·by_cases hi:i=j
   ·subst hi;exact .inr ⟨e,l,GI,ay _ _ _⟩
   ·exact .inl (az _ _ hi)
  ·refine(hM' b).2 ⟨hM,λhjb=> ?_⟩
   have jH:j≠id:=λe=>by rw[e,bg]at GI;cases GI
   exact hm.zB j id _ _ b jH GI trivial bg trivial hjb (by rw[hb];rfl)
  ·rw[JA]
   exact xL w M' rX [ν j] U4 (hr.bZ ic.bZ) (V.slice.1 hV)
 ·rename_i e l GI
  obtain⟨z,hz,EC,GH,xL⟩:=oM h
  have mA:=hm.kP j _ GI
  simp only[ER]at mA
  refine⟨z,_,M,hz,.refl hm,.refl H,.inl ⟨e,l,GI,rfl⟩,b,cs,t,hb,hg,hM,?_⟩
  rw[JA]
  exact xL w M rX [ν j] U4 hr mA.1
 ·cases h
theorem aky{τ υ:Ty}{t:TypeId}(hE:EnvTy P E)(ht:E.ty t=some τ)(h:gH ([]:List Step) υ τ=true):υ=τ:=bz h
theorem Rd.agI{e:Ty}{v:Value}{cs:List Value}{l:List e.den}(h:Rd w M (.slice e) cs l): ∃a n cap,cs=[.slice a n cap]:=by
 simp only[Rd]at h
 obtain⟨a,cap,rfl,_⟩:=h
 exact⟨a,_,cap,rfl⟩
theorem GZ{ρ:Operand→Value}{t:TypeId}{x:Operand}(ho:o.op= .load t x){τ:Ty}(h:kA P τ t)(ha:τ.isAgg=false){b off:Nat}{v:Value}(hx:ρ x= .pointer (some ⟨b,off,none⟩))(hc:w.cell? ⟨b,off,none⟩=some v):
  (execOp ρ o).run P w= .ok (.value v) w:=by
 have:(loadVar t ⟨b,off,none⟩).run P w= .ok v w:=by
  simp[loadVar,ta h,ha,load,Sem.run,hc]
 simp[execOp,ho,hx,Instr.loadAt,Instr.sureAddr,this]
theorem LX(hE:EnvTy P E)(hc:Core c σ a.tmps w M ν){t:TypeId}{x:Operand}(ho:o.op= .load t x){K:iU α}{τ:Ty}(ht:E.ty t=some τ)
  (h:kL (σ.ρ x) σ.H (fun υ y rd=>c7 υ τ y λz=>K (.val τ z) rd [])=some r) (hn:fX c σ a o w M ν K r next):o.wp P a w next Q:=by
 obtain⟨υ,y,rd,h,b,off,cs,hu,pR,hr⟩:=B2 hc.mem (hc.ev x) h
 obtain⟨e,h⟩:=bB h
 subst e
 refine a8 (vS ho (hE.ty t _ ht) hu pR hr) (hn _ _ _ _ _ _ _ h (.refl hc.mem) ?_)
 simp only[VR]
 exact V.cJ hr
theorem YX(hE:EnvTy P E)(hc:Core c σ a.tmps w M ν){t:TypeId}{x:Operand}(ho:o.op= .load t x){K:iU α}{τ:Ty}(ht:E.ty t=some τ)
  (h:uS τ (σ.ρ x) σ.H K=some r) (hn:fX c σ a o w M ν K r next):o.wp P a w next Q:=by
 unfold uS at h
 simp only at h
 split at h
 ·rename_i id p hx
  split at h
  ·rename_i υ z q j bg
   have hv:=hc.ev x
   rw[hx]at hv
   simp only[VR]at hv
   obtain⟨e1,PD,nA⟩:=hv
   rw[bg]at PD;cases PD
   simp only[AR]at nA
   obtain⟨hi,b,hb,hu⟩:=nA
   obtain⟨b',cs,te,rX,e0,eV,hg,hM,hr,JA,h1,hq,eZ,hj⟩:=hc.mem.linked bg
   rw[hb]at eV;cases eV
   cases hp:LC p q
   ·rw[hp]at h
    cases GC:xG p q
    ·
     rw[GC]at h
     simp only[av]at h
     obtain⟨υ',y,o',xM,h⟩:=jV h
     obtain⟨e2,h⟩:=bB h
     subst e2
     have hap:=xM.apart hi hq GC
     have ho':=xM.eq.2
     subst ho'
     have GH:=xM.bound hi
     have hlen:=hr.length
     have kM:Rd w M υ' ((cs.toList.drop (cE p υ)).take υ'.size) y:=by
      rw[JA,Jx (by simp only[aI];omega) (by simp only[aI];omega)]
      exact xM.rd hi hr
     refine a8 (vS ho (hE.ty t _ ht) hu (At.of_block hg _ _) kM) (hn _ _ _ _ _ M ν h (.refl hc.mem) ?_)
     simp only[VR]
     exact V.cJ kM
    ·
     rw[GC]at h
     simp only[av,ak]at h
     obtain⟨z',ups,M',h,ic,_,_,b2,cs2,t2,tI,U5,JB,yv⟩:=yu hc.mem bg h
     rw[hb]at tI;cases tI
     rw[hg]at U5;cases U5
     obtain⟨υ',y,o',xM,h⟩:=jV h
     obtain⟨e2,h⟩:=bB h
     subst e2
     have ho':=xM.eq.2
     subst ho'
     have kM:=xM.rd hi yv
     refine a8 (vS ho (hE.ty t _ ht) hu (At.of_block hg _ _) kM) (hn _ _ _ _ _ M' ν h ic ?_)
     simp only[VR]
     exact V.cJ kM
   ·
    rw[hp]at h
    have:=AY hp
    subst this
    simp only[ak]at h
    obtain⟨hpq,hK⟩:=cA h
    have hτ:τ= .slice e0:=(kC hpq).2.symm.trans (kC hq).2
    subst hτ
    have Rb:w.cell? ⟨b,cE p υ,none⟩=some (ν j):=by rw[cell_of hg,←gL,JA,DE eZ]
    refine a8 (GZ ho (hE.ty t _ ht) rfl hu Rb) (hn _ _ _ _ _ M ν hK (.refl hc.mem) ?_)
    simp only[VR]
    exact⟨hj,trivial⟩
  ·exact LX hE hc ho ht h hn
 ·exact LX hE hc ho ht h hn
end VM
end
section
namespace VM
open Go
variable{P:Program}{E:Env}{o:Oper}{a:Act}{w:World}{M:Nat→Prop}{ν:Nat→Value}{σ:St}{c:Ctx}{α:Type}{r:α}{next:Act→World→Prop}{Q:Exit→Act→World→Prop}
theorem Fz.own{H H1:Nat→Option bh}(h:Fz H H1){i:Nat}{e:Ty}{l:List e.den}(hi:H i=some (.own e l)):H1 i=some (.own e l)∨H1 i=some (.ot e l):=by
 rcases h i with h'|⟨e',l',h1,h2⟩
 ·exact .inl (by rw[h',hi])
 ·rw[hi]at h1;cases h1;exact .inr h2
theorem SE(hE:EnvTy P E)(hc:Core c σ a.tmps w M ν){t:TypeId}{x y:Operand}(ho:o.op= .store t x y){K:iU α}{τ:Ty}(ht:E.ty t=some τ)
  (h:lP τ (σ.ρ x) (σ.ρ y) σ.H K=some r) (hn:fX c σ a o w M ν K r next):o.wp P a w next Q:=by
 unfold lP at h
 split at h
 ·rename_i id p hx
  obtain⟨z,rd,ups,M',h,ic,hV,hz,kM⟩:=nP (.refl _) hc.mem (hc.ev y) h
  have hv:=hc.ev x
  rw[hx]at hv
  have hvz:=VR.bZ ic.bZ ic.goes hv
  have zG:=hE.ty t τ ht
  have LY:=hV.cells.length
  rw[bG]at LY
  split at h
  ·rename_i υ x0 bg
   have pd:=hz.obj bg
   obtain⟨x1,hK,EC,GH,xL⟩:=oM h
   simp only[VR]at hvz
   obtain⟨e1,PD,nA⟩:=hvz
   rw[pd]at PD;cases PD
   simp only[AR]at nA
   obtain⟨hi,b,hb,hu⟩:=nA
   have mA:=ic.mem.kP id _ pd
   simp only[ER]at mA
   obtain⟨b',cs,te,eV,hg,hM,hr⟩:=mA
   rw[hb]at eV;cases eV
   have GH:=GH hi
   have YV:=hr.length
   rw[bG]at YV
   have dD:=mY (P:=P) ho zG hu hg LY ω hV.cells.ou
   rw[bG]at dD
   have vU:Tr c (c3 σ.H ups) w M' ν (bW (c3 σ.H ups) id (some (.obj υ x1))) (w.setRow b (e8 cs.toList (cE p υ) (a.eval y).cells.toList).toArray) M' ν:=by
    refine Tr.write (e':= .obj υ x1) ic.mem pd trivial trivial rfl (by rw[hb];rfl) hg λPm hk A2=> ?_
    simp only[ER]
    refine⟨b,_,te,hb,setRow_heap w b cs _ te _ hg,A2,?_⟩
    exact(xL w M' cs.toList _ hi hr hV.cells).bZ hk
   refine qK dD ?_
   refine hn _ _ _ _ _ M' ν hK ?_ (by simp[VR])
   rw[gm]
   have:=ic.trans vU
   unfold e8 at this
   rw[bG]at this
   exact this
  ·rename_i e l bg
   split at h
   ·rename_i i q h0
    obtain⟨zH,h⟩:=mf h
    have pd:c3 σ.H ups id=some (.own e l):=by rw[kM id zH];exact bg
    obtain⟨y1,hK,EC,GH,xL⟩:=oM h
    simp only[VR]at hvz
    obtain⟨e1,PD,nA⟩:=hvz
    rw[pd]at PD;cases PD
    simp only[AR]at nA
    obtain⟨i',q',hpq,GY,hi,b,n,cp,hb,hu⟩:=nA
    cases hpq
    have mA:=ic.mem.kP id _ pd
    simp only[ER]at mA
    rcases mA with⟨rfl,_⟩|⟨b',cs,te,cap,eV,hg,hM,UH,hl,GD,hs,hr⟩
    ·simp at GY
    ·rw[hb]at eV;cases eV
     have GH:=GH hi
     have s9:=eh (s:=e.size) GY
     have yc:l.length*e.size≤cp*e.size:=lB _ hl
     have dD:=mY (P:=P) ho zG hu hg LY ω hV.cells.ou
     rw[bG]at dD
     have hri:=hr i GY
     rw[←kB l i e.zero GY]at hri
     have pf:=xL w M' _ _ hi hri hV.cells
     have hch:((cs.toList.drop (i*e.size)).take e.size).length=e.size:=hri.length
     have YY:e8 cs.toList (i*e.size) (e8 ((cs.toList.drop (i*e.size)).take e.size) (cE q e) (a.eval y).cells.toList)=e8 cs.toList (i*e.size+cE q e) (a.eval y).cells.toList:=by
      have Yy:=pf.length
      have e1:cs.toList=cs.toList.take (i*e.size)++(((cs.toList.drop (i*e.size)).take e.size)++cs.toList.drop (i*e.size+e.size)):=by
       rw[←jx,gb,gb]
      have eZ:(cs.toList.take (i*e.size)).length=i*e.size:=by rw[cc,bG];omega
      conv=>rhs;rw[e1]
      rw[show i*e.size+cE q e=(cs.toList.take (i*e.size)).length+cE q e from by rw[eZ],xe,zA (by rw[hch,bG];omega)]
      generalize e8 ((cs.toList.drop (i*e.size)).take e.size) (cE q e) (a.eval y).cells.toList=m at Yy ⊢
      unfold e8
      rw[Yy,br]
     have vU:Tr c (c3 σ.H ups) w M' ν (bW (c3 σ.H ups) id (some (.own e (List.set l i y1)))) (w.setRow b (e8 cs.toList (i*e.size+cE q e) (a.eval y).cells.toList).toArray) M' ν:=by
      refine Tr.write (e':= .own e (List.set l i y1)) ic.mem pd trivial trivial ⟨rfl,by rw[bN]⟩ (by rw[hb];simp[fH];omega) hg λPm hk A2=> ?_
      simp only[ER]
      refine .inr ⟨b,_,te,cp,by rw[bN];exact hb,setRow_heap w b cs _ te _ hg,A2,UH,by rw[bN];exact hl,GD,?_,?_⟩
      ·rw[←YY,iR,gz (by rw[pf.length,bG];omega),bG];exact hs
      ·have h9:cs.toList.length=cp*e.size:=by rw[bG,hs]
       have h10:=qJ.set (w:=w) (M:=M') (cs:=cs.toList) (l:=l) hr (by rw[h9];exact yc) GY pf
       rw[YY]at h10
       exact λj hj=>(h10 j hj).bZ hk
     refine qK dD ?_
     refine hn _ _ _ _ _ M' ν hK ?_ (by simp[VR])
     rw[gm]
     have:=ic.trans vU
     unfold e8 at this
     rw[bG]at this
     exact this
   ·cases h
  ·cases h
 ·cases h
theorem Fz.ga{H H1:Nat→Option bh}(h:Fz H H1){i:Nat}{τ:Ty}{x:τ.den}{p:List Step}{j:Nat}(hi:H i=some (.ga τ x p j)):H1 i=some (.ga τ x p j):=by
 rcases h i with h'|⟨e',l',h1,h2⟩
 ·rw[h',hi]
 ·rw[hi]at h1;cases h1
theorem yw{β:Type}{l a:List β}{o:Nat}(hl:o+a.length≤l.length)(i:Nat):(e8 l o a)[i]? =if o≤i∧i<o+a.length then a[i-o]? else l[i]? :=by
 unfold e8
 by_cases h1:i<o
 ·rw[ah ω,br,rS (by simp;omega),lE,aj h1]
 ·by_cases h2:i<o+a.length
  ·rw[aj ω,rS (by simp;omega),oq (by simp;omega)]
   simp[ir (show o≤l.length by omega)]
  ·rw[ah ω,oq (by simp;omega)]
   simp only[aS,cc,ir (show o≤l.length by omega),lF]
   congr 1;omega
theorem LZ{β:Type}{l a b:List β}{o o':Nat}(h:o'≤o∧o+a.length≤o'+b.length)(h1:o+a.length≤l.length)(h2:o'+b.length≤l.length):e8 (e8 l o a) o' b=e8 l o' b:=by
 have l1:=gz (a:=l) (o:=o) (new:=a) h1
 apply zi
 intro i
 rw[yw ω,yw ω,yw ω]
 by_cases c1:o'≤i∧i<o'+b.length
 ·rw[aj c1,aj c1]
 ·rw[ah c1,ah c1,ah ω]
theorem HO{β:Type}{l:List β}{o:Nat}{u v:β}(h:o<l.length):e8 (e8 l o [u]) o [v]=e8 l o [v]:=
 LZ (by simp) (by simp;omega) (by simp;omega)
theorem U6{β:Type}{l a b:List β}{o o':Nat}(h:o+a.length≤o'∨o'+b.length≤o)(h1:o+a.length≤l.length)(h2:o'+b.length≤l.length):e8 (e8 l o a) o' b=e8 (e8 l o' b) o a:=by
 have l1:=gz (a:=l) (o:=o) (new:=a) h1
 have l2:=gz (a:=l) (o:=o') (new:=b) h2
 apply zi
 intro i
 rw[yw ω,yw ω,yw ω,yw ω]
 by_cases c1:o'≤i∧i<o'+b.length
 ·rw[aj c1,ah ω,aj c1]
 ·rw[ah c1]
  by_cases c2:o≤i∧i<o+a.length
  ·rw[aj c2,aj c2]
  ·rw[ah c2,ah c2,ah c1]
theorem L0{m:(υ:Ty)→υ.den→(υ.den→Option α)→Option α}: ∀{τ:Ty} {x:τ.den} {n:Nat} {k:τ.den→Option α},mU τ x n m k=some r→ ∃υ y o k',CU τ x n υ y o∧m υ y k'=some r:=λh=>by
 obtain⟨υ,y,o,k',h1,h2,_⟩:=rZ h
 exact⟨υ,y,o,k',h1,h2⟩
theorem ED{υ:Ty}{u:υ.den}: ∀{p:List Step} {τ:Ty} {x:τ.den} {k:τ.den→Option α},ve υ u p τ x k=some r→ ∃y o,Jw p τ x υ y o
 |[],τ,x,k,h=>by
  obtain⟨e,_⟩:=bB (h:c7 υ τ u k=some r)
  subst e
  exact⟨x,0,.nil x⟩
 | .kq n::p,τ,x,k,h=>by
  obtain⟨υ',y,o,k',hf,hm⟩:=L0 (h:mU τ x n _ k=some r)
  obtain⟨y',o',hp⟩:=ED (k:=k') hm
  exact⟨y',_,.kq hf hp⟩
 | .idx i::p,τ,x,k,h=>by
  cases τ with
  |arr n e=>
   obtain⟨y',o',hp⟩:=ED (p:=p) (τ:=e) (x:=List.getD x i e.zero) (k:=λz=>k (List.set x i z)) h
   exact⟨y',_,.idx hp⟩
  |_=>simp[ve,DB]at h
theorem HQ: ∀{p q:List Step} {τ e:Ty},xG p q=true→gH q τ (.slice e)=true→cE p τ≤cE q τ∧cE q τ+1≤cE p τ+(GU p τ).size
 |[],q,τ,e,_,hq=>by
  obtain⟨_,_,xM⟩:=s8 hq τ.zero
  have:=xM.bound (kC hq).1
  have h2:=xM.eq.2
  have:(Ty.slice e).size=1:=rfl
  simp only[cE,GU]
  omega
 | .kq a::p,.kq b::q,τ,e,hp,hq=>by
  simp only[xG,bP]at hp
  have:=fT hp.1
  subst this
  unfold gH at hq
  split at hq
  ·rename_i c hc
   obtain⟨_,_,hf⟩:=s7 hc τ.zero
   have:=hf.eq.1
   subst this
   have:=HQ hp.2 hq
   simp only[cE,GU]
   omega
  ·cases hq
 | .kq _::_,[],_,_,hp,_| .kq _::_,.idx _::_,_,_,hp,_| .idx _::_,_,_,_,hp,_=>by simp[xG]at hp
theorem ER.SF{H:Nat→Option bh}(hm:Mem c H w M ν){k:Nat}{e:Ty}{l:List e.den}(hk:H k=some (.own e l)): ∃ad cp,ν k= .slice ad l.length cp:=by
 have:=hm.kP k _ hk
 simp only[ER]at this
 rcases this with⟨rfl,a,hv⟩|⟨b,cs,t,cap,hv,_⟩
 ·exact⟨a,0,hv⟩
 ·exact⟨_,cap,hv⟩
theorem EE(hE:EnvTy P E)(hc:Core c σ a.tmps w M ν){t:TypeId}{x y:Operand}(ho:o.op= .store t x y){K:iU α}{τ:Ty}(ht:E.ty t=some τ){id k:Nat}{q:List Step}{e:Ty}{υ:Ty}{z:υ.den}
  (hx:σ.ρ x= .jg id q) (hy:σ.ρ y= .ref k) {en:bh} (bg:σ.H id=some en) (hen:en.mut) (HR:en.kT (.ga υ z q k)) (hq:gH q υ (.slice e)=true)
  (kV: ∃b cs te rX u,ν id= .pointer (some ⟨b,0,none⟩)∧w.heap[b]? =some (.cells cs te (0,0))∧Rd w M υ rX z∧cs.toList=e8 rX (cE q υ) [u])
  (h:BY τ id k e q υ z σ.H K=some r) (hn:fX c σ a o w M ν K r next):o.wp P a w next Q:=by
 unfold BY at h
 split at h
 ·rename_i e' l hk
  obtain⟨e1,h1⟩:=fU h
  clear h
  subst e1
  obtain⟨e2,h2⟩:=fU h1
  clear h1
  subst e2
  obtain⟨z',hK,EC,GH,xL⟩:=oM h2
  obtain⟨b,cs,te,rX,u,hb,hg,hr,JA⟩:=kV
  have U4:=(kC hq).1
  obtain⟨ad,cp,hνk⟩:=ER.SF hc.mem hk
  have CZ:=hc.ev y
  rw[hy]at CZ
  simp only[VR]at CZ
  have CZ:=CZ.2
  have GH:=GH U4
  have hlen:=hr.length
  have Pn:(Ty.slice e').size=1:=rfl
  have eZ:cE q υ<rX.length:=ω
  have LY:cs.toList.length=rX.length:=by rw[JA];exact gz (by simp;omega)
  have hv:=hc.ev x
  rw[hx]at hv
  simp only[VR]at hv
  obtain⟨e3,he3,nA⟩:=hv
  rw[bg]at he3;cases he3
  have nA:=nA.kT HR
  simp only[AR]at nA
  obtain⟨_,b',eV,hu⟩:=nA
  rw[hb]at eV;cases eV
  have hyc:(a.eval y).cells.toList=[ν k]:=by rw[CZ,hνk];rfl
  have sP:(a.eval y).cells.size=(Ty.slice e').size:=by rw[←bG,hyc];rfl
  have dD:=mY (P:=P) ho (hE.ty t _ ht) hu hg sP (by rw[←bG];omega) (by rw[hyc,hνk];simp[Value.oneCell'])
  have pf:(cs.toList.take (cE q υ)++(a.eval y).cells.toList++cs.toList.drop (cE q υ+(a.eval y).cells.toList.length))=e8 rX (cE q υ) [ν k]:=by
   rw[hyc]
   show e8 cs.toList (cE q υ) [ν k]=_
   rw[JA,HO eZ]
  rw[pf]at dD
  have hrz:Rd w M υ (e8 rX (cE q υ) [.slice none 0 0]) z':=xL w M rX [.slice none 0 0] U4 hr (Rd.zero w M (.slice e'))
  have ic:Tr c σ.H w M ν (bW σ.H id (some (.ga υ z' q k))) (w.setRow b (e8 rX (cE q υ) [ν k]).toArray) M ν:=by
   refine Tr.write (e':= .ga υ z' q k) hc.mem bg hen trivial (by cases en<;>simp only[bh.kT]at HR ⊢ <;>exact HR) (by rw[hb];rfl) hg (λPm G0 A2=> ?_) (fun τ' x' p' j' hl=> ?_)
   ·simp only[ER]
    refine⟨b,_,te,e8 rX (cE q υ) [.slice none 0 0],ν k,hb,setRow_heap w b cs _ te _ hg,A2,hrz.bZ G0,?_,by rw[hνk];rfl,e',hq⟩
    rw[HO eZ]
   ·cases hl
    refine⟨by rw[hk];simp,b,hb,?_⟩
    rw[cell_of (setRow_heap w b cs _ te _ hg),←gL]
    show(e8 rX (cE q υ) [ν k])[cE q υ]? =_
    rw[DE eZ]
  exact qK dD (hn _ _ _ _ _ M ν hK ic (by simp[VR]))
 ·cases h
theorem EF(hE:EnvTy P E)(hc:Core c σ a.tmps w M ν){t:TypeId}{x y:Operand}(ho:o.op= .store t x y){K:iU α}{τ:Ty}(ht:E.ty t=some τ)
  (h:jT E τ (σ.ρ x) (σ.ρ y) σ.H K=some r) (hn:fX c σ a o w M ν K r next):o.wp P a w next Q:=by
 have hold:lP τ (σ.ρ x) (σ.ρ y) σ.H K=some r→o.wp P a w next Q:=λh=>SE hE hc ho ht h hn
 unfold jT at h
 simp only at h
 split at h
 ·rename_i id p hx
  have oL:=hx
  split at h
  ·rename_i υ z bg
   split at h
   ·rename_i q e k sF hy
    cases hp:LC p q
    ·rw[hp]at h;exact hold h
    ·rw[hp]at h
     simp only[ak]at h
     have:=AY hp
     subst this
     have hq:=tc sF
     have mA:=hc.mem.kP id _ bg
     simp only[ER]at mA
     obtain⟨b,cs,te,hb,hg,hM,hr⟩:=mA
     have eZ:cE p υ<cs.toList.length:=by
      obtain⟨_,_,xM⟩:=s8 hq z
      have:=xM.bound (kC hq).1
      have h2:=xM.eq.2
      have:=hr.length
      have:(Ty.slice e).size=1:=rfl
      omega
     refine EE hE hc ho ht hx hy bg trivial rfl hq ⟨b,cs,te,cs.toList,cs.toList[cE p υ],hb,hg,hr,?_⟩ h hn
     exact(LP (bm eZ)).symm
   ·exact hold h
  ·rename_i υ z q j bg
   obtain⟨b,cs,te,rX,e0,hb,hg,hM,hr,JA,h1,hq,eZ,hj⟩:=hc.mem.linked bg
   have zI:lN true (σ.ρ y) σ.H τ (λy rd ups=>ve τ y p υ z λz=>K .any (id::rd) (ups++[(id,some (cond (xG p q) (.obj υ z) (.ga υ z q j)))]))=some r→o.wp P a w next Q:=by
    intro h
    obtain⟨u,rd,ups,M',h,ic,hV,hz,kM⟩:=nP (.refl _) hc.mem (hc.ev y) h
    have pd:=hz.ga bg
    have hv:=hc.ev x
    rw[hx]at hv
    have hvz:=VR.bZ ic.bZ ic.goes hv
    simp only[VR]at hvz
    obtain⟨e1,PD,nA⟩:=hvz
    rw[pd]at PD;cases PD
    simp only[AR]at nA
    obtain⟨hi,b1,me,hu⟩:=nA
    rw[hb]at me;cases me
    obtain⟨b2,cs2,te2,cs3,e3,tI,U5,JB,yv,YZ,h12,Yz,alh,hj2⟩:=ic.mem.linked pd
    rw[hb]at tI;cases tI
    rw[hg]at U5;cases U5
    obtain⟨z',hK,EC,GH,xL⟩:=oM h
    have GH:=GH hi
    have YV:=yv.length
    have LY:cs.toList.length=cs3.length:=by rw[YZ];exact gz (by simp;omega)
    have hcy:=hV.cells.length
    rw[bG]at hcy
    have axQ:(a.eval y).cells.toList.length=τ.size:=by rw[bG];exact hcy
    have dD:=mY (P:=P) ho (hE.ty t _ ht) hu hg hcy (by rw[←bG];omega) hV.cells.ou
    have U7:cs.toList.take (cE p υ)++(a.eval y).cells.toList++cs.toList.drop (cE p υ+(a.eval y).cells.toList.length)=e8 cs.toList (cE p υ) (a.eval y).cells.toList:=rfl
    rw[U7]at dD
    have hzr:=xL w M' cs3 _ hi yv hV.cells
    have fin: ∀e',e'.mut→bh.kT (.ga υ z q j) e'→K .any (id::rd) (ups++[(id,some e')])=some r→(∀Pm,eY w M' (w.setRow b (e8 cs.toList (cE p υ) (a.eval y).cells.toList).toArray) Pm→Pm b→ER (w.setRow b (e8 cs.toList (cE p υ) (a.eval y).cells.toList).toArray) Pm (ν id) e')→
      (∀τ' x' p' j',e'= .ga τ' x' p' j'→(c3 σ.H ups) j'≠none∧ ∃b',ν id= .pointer (some ⟨b',0,none⟩)∧(w.setRow b (e8 cs.toList (cE p υ) (a.eval y).cells.toList).toArray).cell? ⟨b',cE p' τ',none⟩=some (ν j'))→o.wp P a w next Q:=by
     intro e' jI Jv hK Sz sF
     have vU:=Tr.write (e':=e') ic.mem pd trivial jI Jv (by rw[hb];rfl) hg Sz sF
     refine qK dD (hn _ _ _ _ _ M' ν hK ?_ (by simp[VR]))
     rw[gm]
     exact ic.trans vU
    cases GC:xG p q
    ·rw[GC]at hK
     simp only[av]at hK
     obtain⟨yy,oo,xM⟩: ∃y o,Jw p υ z τ y o:=ED h
     have hap:=xM.apart hi hq GC
     have hoo:=xM.eq.2
     subst hoo
     have aft:e8 cs.toList (cE p υ) (a.eval y).cells.toList=e8 (e8 cs3 (cE p υ) (a.eval y).cells.toList) (cE q υ) [ν j]:=by
      rw[YZ]
      exact U6 (by simp only[aI];omega) (by simp only[aI];omega) ω
     have Yy:=gz (a:=cs3) (o:=cE p υ) (new:=(a.eval y).cells.toList) ω
     refine fin (.ga υ z' q j) trivial rfl hK (λPm hk A2=> ?_) (fun τ' x' p' j' hl=> ?_)
     ·simp only[ER]
      exact⟨b,_,te,_,ν j,hb,setRow_heap w b cs _ te _ hg,A2,hzr.bZ hk,aft,h1,e0,hq⟩
     ·cases hl
      refine⟨hj2,b,hb,?_⟩
      rw[cell_of (setRow_heap w b cs _ te _ hg),←gL]
      show(e8 cs.toList (cE p υ) (a.eval y).cells.toList)[cE q υ]? =_
      rw[aft,DE ω]
    ·rw[GC]at hK
     simp only[ak]at hK
     refine fin (.obj υ z') trivial rfl hK (λPm hk A2=> ?_) (fun τ' x' p' j' hl=>by cases hl)
     simp only[ER]
     refine⟨b,_,te,hb,setRow_heap w b cs _ te _ hg,A2,?_⟩
     show Rd _ _ υ (e8 cs.toList (cE p υ) (a.eval y).cells.toList) z'
     have lK:=HQ GC hq
     rw[EC]at lK
     have ho:e8 cs.toList (cE p υ) (a.eval y).cells.toList=e8 cs3 (cE p υ) (a.eval y).cells.toList:=by
      rw[YZ]
      exact LZ (by simp only[aI];omega) (by simp only[aI];omega) ω
     have h9:=hzr.bZ hk
     rw[←ho]at h9
     exact h9
   split at h
   ·rename_i q' e k sF hy
    cases hp:(LC p q&&LC q q')
    ·rw[hp]at h;exact zI h
    ·rw[hp]at h
     simp only[ak]at h
     rw[bP]at hp
     have:=AY hp.1
     subst this
     have:=AY hp.2
     subst this
     refine EE hE hc ho ht hx hy bg trivial rfl (tc sF) ⟨b,cs,te,rX,ν j,hb,hg,hr,JA⟩ h hn
   ·exact zI h
  ·exact hold h
 ·exact hold h
theorem SG(hE:EnvTy P E)(hc:Core c σ a.tmps w M ν){t:TypeId}{x y:Operand}(ho:o.op= .store t x y){K:iU α}{τ:Ty}(ht:E.ty t=some τ)
  (h:sC E τ (σ.ρ x) (σ.ρ y) σ.H K=some r) (hn:fX c σ a o w M ν K r next):o.wp P a w next Q:=by
 unfold sC at h
 split at h
 ·rename_i id υ z n hx hy
  split at h
  ·rename_i m e sF
   cases EB:Nat.beq m n
   ·rw[EB]at h
    simp only[av]at h
    exact EF hE hc ho ht h hn
   ·rw[EB]at h
    simp only[ak]at h
    have EB:=fT EB
    subst EB
    obtain⟨e1,h1⟩:=fU h
    clear h
    subst e1
    have hq:=tc sF
    have CZ:=hc.ev y
    rw[hy]at CZ
    simp only[VR]at CZ
    obtain⟨hV,cs,ad,hva,hz⟩:=CZ
    have hcy:(a.eval y).cells=cs:=by rw[hva];rfl
    obtain⟨en,bg,hen,hK⟩: ∃en:bh,σ.H id=some en∧(∃z0,en= .obj τ z0∨ ∃q j,en= .ga τ z0 q j)∧σ.H (id+2)=none∧K .any [id,id+2] [(id,some (.ga τ z [.kq m] (id+2))),(id+2,some (.own e []))]=some r:=by
     unfold mW at h1
     split at h1
     ·rename_i υ z0 bg
      obtain⟨e2,h2⟩:=fU h1
      clear h1
      subst e2
      obtain⟨h3,h4⟩:=kU h2
      exact⟨_,bg,⟨z0,.inl rfl⟩,h3,h4⟩
     ·rename_i υ z0 q j bg
      obtain⟨e2,h2⟩:=fU h1
      clear h1
      subst e2
      obtain⟨h3,h4⟩:=kU h2
      exact⟨_,bg,⟨z0,.inr ⟨q,j,rfl⟩⟩,h3,h4⟩
     ·cases h1
     ·cases h1
     ·cases h1
    obtain⟨hk,hK⟩:=hK
    have aqN:en.mut:=by rcases hen with⟨z0,rfl|⟨q,j,rfl⟩⟩<;>trivial
    have HR:en.kT (.obj τ z):=by rcases hen with⟨z0,rfl|⟨q,j,rfl⟩⟩<;>rfl
    obtain⟨b,rX,te,hb,hg,sP⟩: ∃b rX te,ν id= .pointer (some ⟨b,0,none⟩)∧w.heap[b]? =some (.cells rX te (0,0))∧rX.toList.length=τ.size:=by
     rcases hen with⟨z0,rfl|⟨q,j,rfl⟩⟩
     ·have:=hc.mem.kP id _ bg
      simp only[ER]at this
      obtain⟨b,rX,te,h2,h3,_,h5⟩:=this
      exact⟨b,rX,te,h2,h3,h5.length⟩
     ·obtain⟨b,rX,te,yW,_,h2,h3,_,h5,h6,_,_,h7,_⟩:=hc.mem.linked bg
      refine⟨b,rX,te,h2,h3,?_⟩
      rw[h6,gz (by simp only[aI];omega),h5.length]
    have hv:=hc.ev x
    rw[hx]at hv
    simp only[VR]at hv
    obtain⟨e3,he3,nA⟩:=hv
    rw[bg]at he3;cases he3
    have nA:=nA.kT HR
    simp only[AR]at nA
    obtain⟨_,b',eV,hu⟩:=nA
    rw[hb]at eV;cases eV
    have LY:=hV.cells.length
    have dD:=mY (P:=P) ho (hE.ty t _ ht) hu hg (by rw[←bG];exact LY) (by rw[←bG,sP];simp[cE]) hV.cells.ou
    have U7:rX.toList.take (cE [] τ)++(a.eval y).cells.toList++rX.toList.drop (cE [] τ+(a.eval y).cells.toList.length)=(a.eval y).cells.toList:=by
     simp only[cE,oH,cI,gh]
     rw[ku ω,ch]
    rw[U7]at dD
    have xL:=setRow_heap w b rX (a.eval y).cells.toList.toArray te _ hg
    have ic:=Tr.write (e':= .obj τ z) (new:=(a.eval y).cells.toList.toArray) hc.mem bg aqN trivial HR (by rw[hb];rfl) hg (λPm G0 A2=>by
     simp only[ER]
     exact⟨b,_,te,hb,xL,A2,hV.cells.bZ G0⟩)
    have jH:id+2≠id:=ω
    have vU:=Tr.U2 ic.mem (id:=id) (k:=id+2) (by rw[az _ _ jH];exact hk) (ay _ _ _) hb xL hq (ad:=ad) (by rw[hcy];simpa [cE]using hz)
    have e1:c3 (bW σ.H id (some (.obj τ z))) [(id,some (.ga τ z [.kq m] (id+2))),(id+2,some (.own e []))]=c3 σ.H [(id,some (.ga τ z [.kq m] (id+2))),(id+2,some (.own e []))]:=by
     show bW (bW (bW σ.H id _) id _) (id+2) _=bW (bW σ.H id _) (id+2) _
     rw[yt]
    rw[e1]at vU
    exact qK dD (hn _ _ _ _ _ _ _ hK (ic.trans vU) (by simp[VR]))
  ·exact EF hE hc ho ht h hn
 ·exact EF hE hc ho ht h hn
end VM
end
section
namespace VM
open Go
variable{P:Program}{E:Env}{o:Oper}{a:Act}{w:World}{M:Nat→Prop}{ν:Nat→Value}{σ:St}{c:Ctx}{α:Type}{r:α}{next:Act→World→Prop}{Q:Exit→Act→World→Prop}
theorem nb{n:Nat}(h:Nat.beq n 0=false):n≠0:=by rw[←mN,vH]at h;exact h
theorem At.sub{b off:Nat}{cs:List Value}(h:At w b off cs)(o n:Nat):At w b (off+o) ((cs.drop o).take n):=by
 intro j v hj
 rw[lE]at hj
 split at hj
 ·rw[lF]at hj
  have:=h _ v hj
  rwa [←oI]at this
 ·cases hj
def vV:bh→List Step→Option Ty
 | .obj τ _,p=>some (GU p τ)
 | .ga τ _ _ _,p=>some (GU p τ)
 | .own e _,.idx _::p| .ot e _,.idx _::p=>some (GU p e)
 |_,_=>none
theorem EG{id:Nat}{p:List Step}{H:Nat→Option bh}{k:Ty→Option α}(h:mW id p H k=some r): ∃e υ,H id=some e∧vV e p=some υ∧k υ=some r:=by
 unfold mW at h
 split at h
 ·rename_i τ x bg
  obtain⟨υ,y,o,hp,hk⟩:=jV h
  exact⟨_,υ,bg,by simp[vV,hp.eq.1],hk⟩
 ·rename_i τ x _ _ bg
  obtain⟨υ,y,o,hp,hk⟩:=jV h
  exact⟨_,υ,bg,by simp[vV,hp.eq.1],hk⟩
 ·rename_i e l bg
  split at h
  ·obtain⟨υ,y,o,hp,hk⟩:=jV h
   exact⟨_,υ,bg,by simp[vV,hp.eq.1],hk⟩
  ·cases h
 ·rename_i e l bg
  split at h
  ·obtain⟨υ,y,o,hp,hk⟩:=jV h
   exact⟨_,υ,bg,by simp[vV,hp.eq.1],hk⟩
  ·cases h
 ·cases h
theorem AR.step{v:Value}{p:List Step}{u:Value}{e:bh}{υ:Ty}(h:AR v p u e)(ht:vV e p=some υ)(s:Step)(hs:xJ [s] υ):
  ∃b off,u= .pointer (some ⟨b,off,none⟩)∧AR v (p++[s]) (.pointer (some ⟨b,off+cE [s] υ,none⟩)) e:=by
 cases e with
 |obj τ x=>
  simp only[vV,iq]at ht
  simp only[AR]at h ⊢
  obtain⟨hi,b,hb,rfl⟩:=h
  subst ht
  exact⟨b,_,rfl,(rW p [s] τ).2 ⟨hi,hs⟩,b,hb,by rw[rV]⟩
 |ga τ x _ _=>
  simp only[vV,iq]at ht
  simp only[AR]at h ⊢
  obtain⟨hi,b,hb,rfl⟩:=h
  subst ht
  exact⟨b,_,rfl,(rW p [s] τ).2 ⟨hi,hs⟩,b,hb,by rw[rV]⟩
 |own e l=>
  simp only[AR]at h ⊢
  obtain⟨i,q,rfl,GY,hi,b,n,cp,hb,rfl⟩:=h
  simp only[vV,iq]at ht
  subst ht
  exact⟨b,_,rfl,i,q++[s],rfl,GY,(rW q [s] e).2 ⟨hi,hs⟩,b,n,cp,hb,by rw[rV,oI]⟩
 |ot e l=>
  simp only[AR]at h ⊢
  obtain⟨i,q,rfl,GY,hi,b,n,cp,hb,rfl⟩:=h
  simp only[vV,iq]at ht
  subst ht
  exact⟨b,_,rfl,i,q++[s],rfl,GY,(rW q [s] e).2 ⟨hi,hs⟩,b,n,cp,hb,by rw[rV,oI]⟩
 |gone=>simp[vV]at ht
theorem A3(hE:EnvTy P E)(hc:Core c σ a.tmps w M ν){t:TypeId}{x:Operand}{n:Nat}(ho:o.op= .fieldAddr t x n){K:iU α}{τ:Ty}(ht:E.ty t=some τ){id:Nat}{p:List Step}(hx:σ.ρ x= .jg id p)
  (h:mW id p σ.H (fun υ=>mV υ τ (xH τ τ.zero n fun υ' _=>cond (Nat.beq υ'.size 0) none (K (.jg id (p++[.kq n])) [id] [])))=some r) (hn:fX c σ a o w M ν K r next):o.wp P a w next Q:=by
 obtain⟨e,υ,bg,het,h⟩:=EG h
 obtain⟨he_,h_⟩:=fU h
 clear h
 subst he_
 have h:=h_
 clear h_
 obtain⟨υ',y,of,hf,h⟩:=s6 h
 obtain⟨hz,h⟩:=mf h
 have hv:=hc.ev x
 rw[hx]at hv
 simp only[VR]at hv
 obtain⟨e',vQ,nA⟩:=hv
 rw[bg]at vQ;cases vQ
 obtain⟨b,off,hu,agM⟩:=nA.step het (.kq n) trivial
 obtain⟨fs,f,Po,hff,hfo,SH⟩:=(hE.ty t υ ht).kq hf
 obtain⟨v,dD,hvv⟩:=tb (P:=P) ho (w:=w) Po hff SH (nb hz) hu
 refine a8 dD (hn _ _ _ _ _ M ν h (.refl hc.mem) ?_)
 simp only[VR]
 refine⟨e,bg,?_⟩
 rw[hvv,hfo,hf.eq.2]
 simpa [cE]using agM
theorem zJ(hE:EnvTy P E)(hc:Core c σ a.tmps w M ν){t:TypeId}{x:Operand}{n:Nat}(ho:o.op= .fieldAddr t x n){K:iU α}{τ:Ty}(ht:E.ty t=some τ){υ:Ty}{z:υ.den}(hx:σ.ρ x= .qD υ z)
  (h:mV υ τ (xH υ z n fun υ y=>cond (Nat.beq υ.size 0) none (K (.qD υ y) [] []))=some r) (hn:fX c σ a o w M ν K r next):o.wp P a w next Q:=by
 obtain⟨he,h1⟩:=fU h
 subst he
 obtain⟨υ',y,of,hf,h⟩:=s6 h1
 obtain⟨hz,h⟩:=mf h
 have hv:=hc.ev x
 rw[hx]at hv
 simp only[VR]at hv
 obtain⟨b,off,hu,hb,hM,cs,pR,hr⟩:=hv
 obtain⟨fs,f,Po,hff,hfo,SH⟩:=(hE.ty t υ ht).kq hf
 obtain⟨v,dD,hvv⟩:=tb (P:=P) ho (w:=w) Po hff SH (nb hz) hu
 refine a8 dD (hn _ _ _ _ _ M ν h (.refl hc.mem) ?_)
 simp only[VR]
 exact⟨b,off+f.offset,hvv,hb,hM,_,by rw[hfo];exact pR.sub of υ'.size,hf.rd hr⟩
theorem V.agg{τ:Ty}(ha:τ.isAgg=true){v:Value}{x:τ.den}(h:V w M τ v x): ∃cs,v= .agg cs∧Rd w M τ cs.toList x:=by
 unfold V at h;rw[aj ha]at h;exact h
theorem CU.agg{τ:Ty}{x:τ.den}{n:Nat}{υ:Ty}{y:υ.den}{o:Nat}(h:CU τ x n υ y o):τ.isAgg=true:=by cases h<;>rfl
theorem U8(hE:EnvTy P E)(hc:Core c σ a.tmps w M ν){t:TypeId}{x:Operand}{n:Nat}(ho:o.op= .field t x n){K:iU α}{τ:Ty}(ht:E.ty t=some τ){υ:Ty}{z:υ.den}(hx:σ.ρ x= .val υ z)
  (h:mV υ τ (xH υ z n fun υ y=>K (.val υ y) [] [])=some r) (hn:fX c σ a o w M ν K r next):o.wp P a w next Q:=by
 obtain⟨he,h1⟩:=fU h
 subst he
 obtain⟨υ',y,of,hf,h⟩:=s6 h1
 have hv:=hc.ev x
 rw[hx]at hv
 simp only[VR]at hv
 obtain⟨cs,hu,hr⟩:=hv.agg hf.agg
 obtain⟨fs,f,Po,hff,hfo,SH⟩:=(hE.ty t υ ht).kq hf
 have eJ:=hf.rd hr
 refine a8 (Jz ho Po hff SH hu (by rw[hfo];exact eJ)) (hn _ _ _ _ _ M ν h (.refl hc.mem) ?_)
 simp only[VR]
 rw[hfo]
 exact V.cJ eJ
theorem JC(hE:EnvTy P E)(hc:Core c σ a.tmps w M ν){t:TypeId}{x i:Operand}(ho:o.op= .indexAddr t x i){K:iU α}{τ:Ty}(ht:E.ty t=some τ)
  (h:gy τ (σ.ρ x) (σ.ρ i) σ.H K=some r) (hn:fX c σ a o w M ν K r next):o.wp P a w next Q:=by
 unfold gy at h
 obtain⟨k,n,hi,h2⟩:=mZ h
 clear h
 have h:=h2
 clear h2
 have Rc:=hc.ev i
 rw[hi]at Rc
 have Rc:=Rc.int
 have hv:=hc.ev x
 have zG:=hE.ty t τ ht
 split at h
 ·
  rename_i e
  obtain⟨e',Po,hle⟩:=zG.slice
  split at h
  ·rename_i υ l hx
   obtain⟨e1,h⟩:=bB h
   subst e1
   obtain⟨lK,h⟩:=cA h
   obtain⟨h0,h1⟩:=tT lK
   have h1:n<(List.length l:Int):=h1
   rw[hx]at hv
   simp only[VR]at hv
   have hv:=V.slice.1 hv
   simp only[Rd,fe,eP]at hv
   obtain⟨ad,cap,hu,alk,hr⟩:=hv
   obtain⟨b,off,rfl,hb,hM,cs,pR,kM⟩:=hr n.toNat ω
   refine a8 (kQ ho Po hle hu Rc h0 h1) (hn _ _ _ _ _ M ν h (.refl hc.mem) ?_)
   simp only[VR]
   refine⟨b,_,rfl,hb,hM,cs,pR,?_⟩
   have:Rd w M e cs (List.getD l n.toNat e.zero):=by rw[kB l n.toNat e.zero ω];exact kM
   exact this
  ·rename_i id hx
   rw[hx]at hv
   simp only[VR]at hv
   obtain⟨_,hu⟩:=hv
   split at h
   ·rename_i e2 l bg
    obtain⟨he_,h_⟩:=fU h
    clear h
    subst he_
    have h:=h_
    clear h_
    obtain⟨lK,h⟩:=cA h
    obtain⟨h0,h1⟩:=tT lK
    have mA:=hc.mem.kP id _ bg
    simp only[ER]at mA
    rcases mA with⟨rfl,_⟩|⟨b,cs,te,cap,hb,hg,hM,UH,hl,GD,hs,hr⟩
    ·simp at h1;omega
    ·rw[hb]at hu
     refine a8 (kQ ho Po hle hu Rc h0 h1) (hn _ _ _ _ _ M ν h (.refl hc.mem) ?_)
     simp only[VR]
     refine⟨_,bg,?_⟩
     simp only[AR]
     exact⟨n.toNat,[],rfl,ω,trivial,b,_,_,hb,by simp[cE]⟩
   ·rename_i e2 l bg
    obtain⟨he_,h_⟩:=fU h
    clear h
    subst he_
    have h:=h_
    clear h_
    obtain⟨lK,h⟩:=cA h
    obtain⟨h0,h1⟩:=tT lK
    have mA:=hc.mem.kP id _ bg
    simp only[ER]at mA
    obtain⟨kM,hhd⟩:=mA
    simp only[Rd,fe,eP]at kM
    obtain⟨ad,cap,hb,alk,hr⟩:=kM
    rcases hhd with⟨rfl,_⟩|⟨b,n2,c2,tI⟩
    ·simp at h1;omega
    ·rw[hb]at tI;cases tI
     rw[hb]at hu
     refine a8 (kQ ho Po hle hu Rc h0 h1) (hn _ _ _ _ _ M ν h (.refl hc.mem) ?_)
     simp only[VR]
     refine⟨_,bg,?_⟩
     simp only[AR]
     exact⟨n.toNat,[],rfl,ω,trivial,b,_,_,hb,by simp[cE]⟩
   ·cases h
  ·cases h
 ·
  rename_i len e
  obtain⟨e',Po,hle⟩:=zG.arr
  split at h
  ·rename_i id p hx
   obtain⟨en,υ,bg,het,h⟩:=EG h
   obtain⟨he_,h_⟩:=fU h
   clear h
   subst he_
   have h:=h_
   clear h_
   obtain⟨lK,h⟩:=cA h
   obtain⟨h0,h1⟩:=tT lK
   rw[hx]at hv
   simp only[VR]at hv
   obtain⟨en',vQ,nA⟩:=hv
   rw[bg]at vQ;cases vQ
   obtain⟨b,off,hu,agM⟩:=nA.step het (.idx n.toNat) ⟨⟨len,e,rfl,ω⟩,trivial⟩
   refine a8 (rY ho Po hle hu Rc h0 h1) (hn _ _ _ _ _ M ν h (.refl hc.mem) ?_)
   simp only[VR]
   refine⟨en,bg,?_⟩
   simpa [cE,elT]using agM
  ·rename_i υ l hx
   obtain⟨e1,h⟩:=bB h
   subst e1
   obtain⟨lK,h⟩:=cA h
   obtain⟨h0,h1⟩:=tT lK
   rw[hx]at hv
   simp only[VR]at hv
   obtain⟨b,off,hu,hb,hM,cs,pR,hr⟩:=hv
   refine a8 (rY ho Po hle hu Rc h0 h1) (hn _ _ _ _ _ M ν h (.refl hc.mem) ?_)
   simp only[VR]
   exact⟨b,_,rfl,hb,hM,_,pR.sub _ e.size,hr.idx ω⟩
  ·cases h
 ·cases h
theorem C0(hc:Core c σ a.tmps w M ν){x:Operand}(ho:o.op= .nilCheck x){K:iU α}{id:Nat}{p:List Step}(hx:σ.ρ x= .jg id p)
  (h:K (.jg id p) [] []=some r) (hn:fX c σ a o w M ν K r next):o.wp P a w next Q:=by
 have hv:=hc.ev x
 have U9:=hv
 rw[hx]at hv
 simp only[VR]at hv
 obtain⟨e,he,nA⟩:=hv
 obtain⟨ad,hu⟩:=nA.ptr
 refine a8 (uU ho hu) (hn _ _ _ _ _ M ν h (.refl hc.mem) ?_)
 rw[←hu,←hx];exact U9
theorem A4(hc:Core c σ a.tmps w M ν){x:Operand}(ho:o.op= .nilCheck x){K:iU α}{τ:Ty}{z:τ.den}(hx:σ.ρ x= .qD τ z)
  (h:K (.qD τ z) [] []=some r) (hn:fX c σ a o w M ν K r next):o.wp P a w next Q:=by
 have hv:=hc.ev x
 have U9:=hv
 rw[hx]at hv
 simp only[VR]at hv
 obtain⟨b,off,hu,_⟩:=hv
 refine a8 (uU ho hu) (hn _ _ _ _ _ M ν h (.refl hc.mem) ?_)
 rw[←hu,←hx];exact U9
theorem ji.get{H:Nat→Option bh}: ∀{pP:List bC} {vs:List Value},ji w M H ν pP vs→ ∀{i:Nat} {x:bC},pP[i]? =some x→ ∃v,vs[i]? =some v∧VR w M H ν x v
 |[],_,_,i,x,hx=>by simp at hx
 |y::pP,[],h,_,_,_=>by simp[ji]at h
 |y::pP,v::vs,h,0,x,hx=>by
  simp only[ji]at h
  simp at hx;subst hx
  exact⟨v,rfl,h.1⟩
 |y::pP,v::vs,h,i+1,x,hx=>by
  simp only[ji]at h
  exact ji.get h.2 (by simpa using hx)
theorem PE(hc:Core c σ a.tmps w M ν){x:Operand}{i:Nat}(ho:o.op= .extract x i){K:iU α}{vs:List bC}{v:bC}(hx:σ.ρ x= .tup vs)(hi:vs[i]? =some v)
  (h:K v [] []=some r) (hn:fX c σ a o w M ν K r next):o.wp P a w next Q:=by
 have hv:=hc.ev x
 rw[hx]at hv
 simp only[VR]at hv
 obtain⟨us,hu,Y0⟩:=hv
 obtain⟨u,hui,hvu⟩:=Y0.get hi
 exact a8 (Ey ho hu hui) (hn _ _ _ _ _ M ν h (.refl hc.mem) hvu)
theorem Core.evs(hc:Core c σ a.tmps w M ν): ∀xs:List Operand,ji w M σ.H ν (xs.map σ.ρ) (xs.map a.eval)
 |[]=>by simp[ji]
 |x::xs=>by simp only[bU,ji];exact⟨hc.ev x,hc.evs xs⟩
theorem vW: ∀{pP:List bC} {vs:List Value} {H:Nat→Option bh} {M:Nat→Prop} {K:List bC→List Nat→iP→Option α},Mem c H w M ν→ji w M H ν pP vs→vM H pP K=some r→
  ∃cs rd ups M',K cs rd ups=some r∧Tr c H w M ν (c3 H ups) w M' ν∧ji w M' (c3 H ups) ν cs vs
 |[],vs,H,M,K,hm,hv,h=>⟨[],[],[],M,h,.refl hm,hv⟩
 |x::xs,[],H,M,K,hm,hv,h=>by simp[ji]at hv
 |x::xs,v::vs,H,M,K,hm,hv,h=>by
  simp only[ji]at hv
  unfold vM at h
  split at h
  ·rename_i id
   split at h
   ·rename_i τ z bg
    obtain⟨M1,b,ht,hb,eZ,hM,rX,pR,kM⟩:=Tr.fix hm bg
    obtain⟨cs,rd,ups,M2,hK,UI,Y1⟩:=vW ht.mem (ji.bZ ht.bZ ht.goes hv.2) h
    refine⟨_,_,_,M2,hK,ht.trans UI,?_⟩
    have h1:VR w M1 (bW H id (some .gone)) ν (.qD τ z) v:=by
     have PF:=hv.1
     simp only[VR]at PF ⊢
     obtain⟨e,he,nA⟩:=PF
     rw[bg]at he;cases he
     simp only[AR]at nA
     obtain⟨_,b',eV,PF⟩:=nA
     rw[hb]at eV;cases eV
     exact⟨b,0,PF,eZ,hM,rX,pR,kM⟩
    simp only[ji]
    exact⟨VR.bZ UI.bZ UI.goes h1,Y1⟩
   ·cases h
  ·obtain⟨cs,rd,ups,M2,hK,UI,Y1⟩:=vW hm hv.2 h
   refine⟨_,_,_,M2,hK,UI,?_⟩
   simp only[ji]
   exact⟨VR.bZ UI.bZ UI.goes hv.1,Y1⟩
theorem L1(hc:Core c σ a.tmps w M ν){f:FuncId}{first caps:Array Operand}(ho:o.op= .makeFunc (.func f) first caps){K:iU α}
  (h:cond first.isEmpty (vM σ.H (caps.toList.map σ.ρ) λcs rd ups=>K (.LD f cs) rd ups) none=some r) (hn:fX c σ a o w M ν K r next):o.wp P a w next Q:=by
 obtain⟨hf,h⟩:=cA h
 obtain⟨cs,rd,ups,M',hK,ht,hv⟩:=vW hc.mem (hc.evs _) h
 refine a8 (CW ho (by simpa using hf)) (hn _ _ _ _ _ M' ν hK ht ?_)
 simp only[VR]
 exact⟨caps.toList.map a.eval,by congr 1;apply jh;simp,hv⟩
theorem PG(hE:EnvTy P E)(hc:Core c σ a.tmps w M ν){s d:TypeId}{x:Operand}(ho:o.op= .convert s d x){K:iU α}{τ:Ty}{k:IntKind}(hs:E.ty s=some τ)(hd:E.ty d=some (.int k))
  (h:vJ (σ.ρ x) (λ_ n=>K (.val (.int k) (W k n)) [] [])=some r) (hn:fX c σ a o w M ν K r next):o.wp P a w next Q:=by
 obtain⟨k',n,hx,h⟩:=mZ h
 have hv:=hc.ev x
 rw[hx]at hv
 refine a8 (Ez ho (hE.ty s τ hs).isSome (hE.ty d _ hd).int hv.int) (hn _ _ _ _ _ M ν h (.refl hc.mem) ?_)
 rw[Er];exact .mkInt k _
end VM
end
section
namespace VM
open Go
variable{P:Program}{E:Env}{o:Oper}{a:Act}{w:World}{M:Nat→Prop}{ν:Nat→Value}{σ:St}{c:Ctx}{α:Type}{r:α}{next:Act→World→Prop}{Q:Exit→Act→World→Prop}
theorem SJ{b:BinOp}{k k':IntKind}{x y:Int}{t:TypeId}{K:bC→Option α}(h:YQ b k x y K=some r):
  ∃z,K (.val (.int k) z)=some r∧(binOp b t (.int k x) (.int k' y)).run P w= .ok (.int k z) w:=by
 unfold YQ at h
 split at h
 ·obtain⟨h0,h⟩:=mf h
  rw[tN]at h0
  have h0: ¬y<0:=by simpa using h0
  refine⟨_,h,?_⟩
  rw[Er,UW]
  simp[binOp,Op.shift,h0]
 ·obtain⟨h0,h⟩:=mf h
  rw[tN]at h0
  have h0: ¬y<0:=by simpa using h0
  refine⟨_,h,?_⟩
  rw[Py]
  simp[binOp,Op.shift,h0]
 ·cases h
theorem JD{b:BinOp}{k:IntKind}{x y:Int}{t:TypeId}{K:bC→Option α}(h:tP b k x y K=some r):
  ∃v u,K v=some r∧(binOp b t (.int k x) (.int k y)).run P w= .ok u w∧ ∀H,VR w M H ν v u:=by
 unfold tP at h
 split at h
 ·exact⟨_,_,h,by simp[binOp,Op.intArith,Er],λH=> .mkInt _ _⟩
 ·exact⟨_,_,h,by simp[binOp,Op.intArith,Er],λH=> .mkInt _ _⟩
 ·exact⟨_,_,h,by simp[binOp,Op.intArith,Er],λH=> .mkInt _ _⟩
 ·obtain⟨h0,h⟩:=mf h
  rw[jq]at h0
  have h0: ¬y=0:=by simpa using h0
  exact⟨_,_,h,by simp[binOp,Op.intDiv,Er,agw,h0],λH=> .mkInt _ _⟩
 ·obtain⟨h0,h⟩:=mf h
  rw[jq]at h0
  have h0: ¬y=0:=by simpa using h0
  exact⟨_,_,h,by simp[binOp,Op.intDiv,agx,h0],λH=> .mkInt _ _⟩
 ·exact⟨_,_,h,by simp[binOp,Op.intBits,tO],λH=> .mkInt _ _⟩
 ·exact⟨_,_,h,by simp[binOp,Op.intBits,tO],λH=> .mkInt _ _⟩
 ·exact⟨_,_,h,by simp[binOp,Op.intBits,tO],λH=> .mkInt _ _⟩
 ·exact⟨_,_,h,by simp[binOp,Op.intBits,tO],λH=> .mkInt _ _⟩
 ·exact⟨_,.bool (decide (x=y)),h,by simp[binOp,Op.intCmp];rfl,λH=>by rw[jq];exact .tS _⟩
 ·exact⟨_,.bool (!decide (x=y)),h,by simp[binOp,Op.intCmp];rfl,λH=>by rw[jq];exact .tS _⟩
 ·exact⟨_,_,h,by simp[binOp,Op.intCmp,tN],λH=> .tS _⟩
 ·exact⟨_,_,h,by simp[binOp,Op.intCmp,nM],λH=> .tS _⟩
 ·exact⟨_,_,h,by simp[binOp,Op.intCmp,tN],λH=> .tS _⟩
 ·exact⟨_,_,h,by simp[binOp,Op.intCmp,nM],λH=> .tS _⟩
 ·cases h
theorem SK{t:Option Ty}{op:BinOp}{τ:Ty}{x:τ.den}{υ:Ty}{y:υ.den}{K:bC→Option α}(h:Eu t op τ x υ y K=some r):
  (∃(k k':IntKind) (m n:Int),bC.val τ x= .val (.int k) m∧bC.val υ y= .val (.int k') n∧(cond (YR op) (YQ op k m n K) (if k=k' then tP op k m n K else none))=some r)∨
  (∃z:τ.den,bC.val υ y= .val τ z∧t=some τ∧τ.comparable=true∧((op= .eql∧K (.val .bool (pa τ x z))=some r)∨(op= .neq∧K (.val .bool (!pa τ x z))=some r))):=by
 unfold Eu at h
 split at h
 ·exact .inl ⟨_,_,_,_,rfl,rfl,h⟩
 ·right
  split at h
  ·cases h
  ·obtain⟨e,h1⟩:=fU h
   clear h
   subst e
   obtain⟨hc,h⟩:=cA h1
   clear h1
   split at h
   ·obtain⟨e,h1⟩:=bB h
    subst e
    exact⟨_,rfl,rfl,hc,.inl ⟨rfl,h1⟩⟩
   ·obtain⟨e,h1⟩:=bB h
    subst e
    exact⟨_,rfl,rfl,hc,.inr ⟨rfl,h1⟩⟩
   ·cases h
theorem B3{t:TypeId}(hu:P.underlying t=some .bool)(x y:Bool)(w:World):(Op.equal t (.bool x) (.bool y)).run P w= .ok (x==y) w:=by
 unfold Op.equal
 obtain⟨n,hn⟩: ∃n,Op.maxDepth=n+1:=⟨9999,rfl⟩
 rw[hn]
 simp[Op.equalIn,run_underlying hu]
theorem run_eql_bool{t:TypeId}(hu:P.underlying t=some .bool)(x y:Bool):(binOp .eql t (.bool x) (.bool y)).run P w= .ok (.bool (x==y)) w:=by
 simp[binOp,B3 hu]
theorem run_neq_bool{t:TypeId}(hu:P.underlying t=some .bool)(x y:Bool):(binOp .neq t (.bool x) (.bool y)).run P w= .ok (.bool (!(x==y))) w:=by
 simp[binOp,B3 hu]
theorem aln(x y:ByteArray):(x.toList==y.toList)=decide (x.toList=y.toList):=by
 rw[oG];simp
theorem L4{t:TypeId}(x y:ByteArray):(binOp .eql t (.string x) (.string y)).run P w= .ok (.bool (decide (x.toList=y.toList))) w:=by
 simp[binOp,Op.stringOp,aln]
theorem L7{t:TypeId}(x y:ByteArray):(binOp .neq t (.string x) (.string y)).run P w= .ok (.bool (!decide (x.toList=y.toList))) w:=by
 simp[binOp,Op.stringOp,aln]
theorem Va(hE:EnvTy P E)(hc:Core c σ a.tmps w M ν){b:BinOp}{t t':TypeId}{x y:Operand}(ho:o.op= .binOp b t x y t'){K:iU α}
  (h:LG (σ.ρ x) (fun τ x=>LG (σ.ρ y) fun υ y=>Eu (E.ty t) b τ x υ y λv=>K v [] [])=some r) (hn:fX c σ a o w M ν K r next):o.wp P a w next Q:=by
 have hx:=hc.ev x
 have hy:=hc.ev y
 unfold LG at h
 split at h
 ·rename_i τ x' Y2
  split at h
  ·rename_i υ y' hye
   rw[Y2]at hx;rw[hye]at hy
   rcases SK h with⟨k,k',m,n,e1,e2,h1⟩|⟨z,e2,ht,DF,h1⟩
   ·rw[e1]at hx;rw[e2]at hy
    have hx:=hx.int
    have hy:=hy.int
    cases hs:YR b
    ·rw[hs]at h1
     replace h1:(if k=k' then tP b k m n (λv=>K v [] [])else none)=some r:=h1
     split at h1
     ·rename_i hk;subst hk
      obtain⟨v,u,hK,dD,hVR⟩:=JD (P:=P) (w:=w) (M:=M) (ν:=ν) (t:=t) h1
      exact a8 (pS ho (by rw[hx,hy];exact pe w) (by rw[hx,hy];exact dD)) (hn _ [] [] _ _ _ _ hK (.refl hc.mem) (hVR _))
     ·cases h1
    ·rw[hs]at h1
     replace h1:YQ b k m n (λv=>K v [] [])=some r:=h1
     obtain⟨z,hK,dD⟩:=SJ (P:=P) (w:=w) (k':=k') (t:=t) h1
     exact a8 (pS ho (by rw[hx,hy];exact pe w) (by rw[hx,hy];exact dD)) (hn _ [] [] _ _ _ _ hK (.refl hc.mem) (.mkInt _ _))
   ·rw[e2]at hy
    have key:(eqGuard b t x y (a.eval x) (a.eval y)).run P w= .ok () w∧(binOp .eql t (a.eval x) (a.eval y)).run P w= .ok (.bool (pa τ x' z)) w∧(binOp .neq t (a.eval x) (a.eval y)).run P w= .ok (.bool (!pa τ x' z)) w:=by
     by_cases LS:τ.isAgg=true
     ·simp only[VR]at hx hy
      exact hE.eq t τ ht DF LS w M _ _ _ _ b x y hx hy
     ·have hl:=hE.ty t τ ht
      cases τ with
      |int k=>
       rw[hx.int,hy.int]
       refine⟨pe w,?_,?_⟩
       ·simp[binOp,Op.intCmp,pa,jq];rfl
       ·simp[binOp,Op.intCmp,pa,jq];rfl
      |bool=>rw[hx.bool,hy.bool];exact⟨A0 w,run_eql_bool hl.bool _ _,run_neq_bool hl.bool _ _⟩
      |str=>rw[hx.str,hy.str];exact⟨CX w,by rw[L4];simp[pa,Et],by rw[L7];simp[pa,Et]⟩
      |slice e=>simp[Ty.comparable]at DF
      |unit=>simp[Ty.isAgg]at LS
      |pair _ _=>simp[Ty.isAgg]at LS
      |arr _ _=>simp[Ty.isAgg]at LS
    obtain⟨hg,h2,h3⟩:=key
    rcases h1 with⟨rfl,hK⟩|⟨rfl,hK⟩
    ·exact a8 (pS ho hg h2) (hn _ [] [] _ _ _ _ hK (.refl hc.mem) (.tS _))
    ·exact a8 (pS ho hg h3) (hn _ [] [] _ _ _ _ hK (.refl hc.mem) (.tS _))
  ·cases h
 ·cases h
theorem Y3(hc:Core c σ a.tmps w M ν){u:UnOp}{t:TypeId}{x:Operand}(ho:o.op= .unOp u t x){K:iU α}
  (h:Sw u (σ.ρ x) (λv=>K v [] [])=some r) (hn:fX c σ a o w M ν K r next):o.wp P a w next Q:=by
 have hx:=hc.ev x
 unfold Sw at h
 split at h
 ·rename_i k n Y2
  rw[Y2]at hx
  refine a8 (vT ho (v:= .int k (k.wrap (0-n))) ?_) (hn _ [] [] _ _ _ _ h (.refl hc.mem) (by rw[Er];exact .mkInt _ _))
  rw[hx.int];simp[Op.unary,Op.intArith]
 ·rename_i k n Y2
  rw[Y2]at hx
  refine a8 (vT ho (v:= .int k (qC .xor k (if k.signed then-1 else k.max) n)) ?_) (hn _ [] [] _ _ _ _ h (.refl hc.mem) (.mkInt _ _))
  rw[hx.int,tO];simp[Op.unary,Op.intBits]
 ·rename_i b Y2
  rw[Y2]at hx
  refine a8 (vT ho (v:= .bool (!b)) ?_) (hn _ [] [] _ _ _ _ h (.refl hc.mem) (.tS _))
  rw[hx.bool];simp[Op.unary]
 ·cases h
end VM
end
section
namespace VM
open Go
variable{P:Program}{E:Env}{o:Oper}{a:Act}{w:World}{M:Nat→Prop}{ν:Nat→Value}{σ:St}{c:Ctx}{α:Type}{r:α}{next:Act→World→Prop}{Q:Exit→Act→World→Prop}
theorem nQ{args:Array Operand}{ts:Array TypeId}{t:TypeId}{x:Operand}{n:Nat}(ho:o.op= .call {callee:= .builtin .len,args,argTypes:=ts})(ha:args.toList=[x])(_ht:ts.toList.head?=some t)
  (hl: ∀ty,(Builtin.len_ ts ty #[a.eval x]).run P w= .ok (goInt n) w):(execOp a.eval o).run P w= .ok (.value (.int .i64 n)) w:=by
 obtain⟨cs,hr⟩:=qI (P:=P) (ρ:=a.eval) ho (w:=w)
 rw[hr]
 have:args.map a.eval= #[a.eval x]:=by apply jh;simp[ha]
 rw[this]
 simp[builtin,hl,goInt]
theorem Y4{ts:Array TypeId}{t ty:TypeId}(ht:ts[0]? =some t)(hu:P.underlying t=some .string)(s:ByteArray):(Builtin.len_ ts ty #[.string s]).run P w= .ok (goInt s.size) w:=by
 simp[Builtin.len_,ht,run_underlying hu]
theorem Y5{ts:Array TypeId}{t ty e:TypeId}{n:Nat}(ht:ts[0]? =some t)(hu:P.underlying t=some (.array n e))(v:Value):(Builtin.len_ ts ty #[v]).run P w= .ok (goInt n) w:=by
 simp[Builtin.len_,ht,run_underlying hu]
theorem xh{ts:Array TypeId}{t ty e:TypeId}(ht:ts[0]? =some t)(hu:P.underlying t=some (.slice e))(ad:Option Addr)(n cp:Nat):(Builtin.len_ ts ty #[.slice ad n cp]).run P w= .ok (goInt n) w:=by
 simp[Builtin.len_,ht,run_underlying hu]
theorem ER.Vb{e:Ty}{l:List e.den}{v:Value}(h:ER w M v (.own e l)): ∃ad cp,v= .slice ad l.length cp:=by
 simp only[ER]at h
 rcases h with⟨rfl,a,hv⟩|⟨b,cs,t,cap,hv,_⟩
 ·exact⟨a,0,hv⟩
 ·exact⟨_,cap,hv⟩
theorem ER.Vc{e:Ty}{l:List e.den}{v:Value}(h:ER w M v (.ot e l)): ∃ad cp,v= .slice ad l.length cp:=by
 simp only[ER]at h
 have h:=h.1
 simp only[Rd,fe,eP]at h
 obtain⟨a,cap,hv,_⟩:=h
 exact⟨a,cap,hv⟩
theorem agN(hE:EnvTy P E)(hc:Core c σ a.tmps w M ν){args:Array Operand}{ts:Array TypeId}{x:Operand}(ho:o.op= .call {callee:= .builtin .len,args,argTypes:=ts})(ha:args.toList=[x]){K:iU α}{τ:Ty}
  (ht:(ts.toList.head?).bind E.ty=some τ) (h:LH τ (σ.ρ x) σ.H K=some r) (hn:fX c σ a o w M ν K r next):o.wp P a w next Q:=by
 obtain⟨t,vq,UI⟩:=sR.1 ht
 have Y6:ts[0]? =some t:=by rw[←vq,←gL,List.head?_eq_getElem?]
 have hl:=hE.ty t τ UI
 have hv:=hc.ev x
 unfold LH at h
 split at h
 ·rename_i e e' l hx
  obtain⟨_,hu,_⟩:=hl.slice
  rw[hx]at hv
  simp only[VR]at hv
  have hv:=V.slice.1 hv
  simp only[Rd,fe,eP]at hv
  obtain⟨ad,cap,hv,_⟩:=hv
  refine a8 (nQ ho ha vq (n:=List.length l) λty=>by rw[hv];exact xh Y6 hu _ _ _) (hn _ [] [] _ _ _ _ h (.refl hc.mem) (.mkInt _ _))
 ·rename_i n e n' e' l hx
  obtain⟨_,hu,_⟩:=hl.arr
  refine a8 (nQ ho ha vq (n:=n) λty=>Y5 Y6 hu _) (hn _ [] [] _ _ _ _ h (.refl hc.mem) (.mkInt _ _))
 ·rename_i s hx
  rw[hx]at hv
  refine a8 (nQ ho ha vq (n:=ByteArray.size s) λty=>by rw[hv.str];exact Y4 Y6 hl.str _) (hn _ [] [] _ _ _ _ h (.refl hc.mem) (.mkInt _ _))
 ·rename_i e hx
  obtain⟨_,hu,_⟩:=hl.slice
  rw[hx]at hv
  simp only[VR]at hv
  obtain⟨ad,hv⟩:=hv
  refine a8 (nQ ho ha vq (n:=0) λty=>by rw[hv];exact xh Y6 hu _ _ _) (hn _ [] [] _ _ _ _ h (.refl hc.mem) (.mkInt _ _))
 ·rename_i e id hx
  obtain⟨_,hu,_⟩:=hl.slice
  rw[hx]at hv
  simp only[VR]at hv
  split at h
  ·rename_i e' l bg
   obtain⟨ad,cap,hh⟩:=(hc.mem.kP id _ bg).Vb
   refine a8 (nQ ho ha vq (n:=l.length) λty=>by rw[hv.2,hh];exact xh Y6 hu _ _ _) (hn _ [id] [] _ _ _ _ h (.refl hc.mem) (.mkInt _ _))
  ·rename_i e' l bg
   obtain⟨ad,cap,hh⟩:=(hc.mem.kP id _ bg).Vc
   refine a8 (nQ ho ha vq (n:=l.length) λty=>by rw[hv.2,hh];exact xh Y6 hu _ _ _) (hn _ [id] [] _ _ _ _ h (.refl hc.mem) (.mkInt _ _))
  ·cases h
 ·cases h
theorem L8{H:Nat→Option bh}(up:Bool): ∀(xs:List bC) (x:bC) (v:Value) (vs:List Value) (K:bC→Option α),VR w M H ν x v→ji w M H ν xs vs→Yx up x xs K=some r→
  ∃x' v',K x'=some r∧(vs.foldlM (if up then Builtin.max2 else Builtin.min2) v).run P w= .ok v' w∧VR w M H ν x' v'
 |[],x,v,[],K,hx,_,h=>⟨x,v,h,by simp,hx⟩
 |[],_,_,_::_,_,_,hs,_=>by simp[ji]at hs
 |_::_,_,_,[],_,_,hs,_=>by simp[ji]at hs
 |y::xs,x,v,u::vs,K,hx,hs,h=>by
  simp only[ji]at hs
  obtain⟨hy,hs⟩:=hs
  unfold Yx at h
  obtain⟨k,m,e1,h1⟩:=mZ h
  obtain⟨k',n,e2,h2⟩:=mZ h1
  clear h h1
  split at h2
  ·rename_i hk
   subst hk
   rw[e1]at hx;rw[e2]at hy
   have hx:=hx.int
   have hy:=hy.int
   obtain⟨x',v',hK,dD,hV⟩:=L8 up xs _ (.int k (cond up (mx m n) (mn m n))) vs K (.mkInt _ _) hs h2
   refine⟨x',v',hK,?_,hV⟩
   rw[List.foldlM_cons,Sem.run_bind]
   have:((if up then Builtin.max2 else Builtin.min2) v u).run P w= .ok (.int k (cond up (mx m n) (mn m n))) w:=by
    rw[hx,hy]
    cases up
    ·simp[Builtin.min2,Q6]
    ·simp[Builtin.max2,UX]
   rw[this]
   exact dD
  ·cases h2
theorem afu(hc:Core c σ a.tmps w M ν)(up:Bool){args:Array Operand}{ts:Array TypeId}{x:Operand}{xs:List Operand}(ho:o.op= .call {callee:= .builtin (if up then .max else .min),args,argTypes:=ts})(ha:args.toList=x::xs){K:iU α}
  (h:Yx up (σ.ρ x) (xs.map σ.ρ) (λv=>K v [] [])=some r) (hn:fX c σ a o w M ν K r next):o.wp P a w next Q:=by
 obtain⟨x',v',hK,dD,hV⟩:=L8 (P:=P) up (xs.map σ.ρ) (σ.ρ x) (a.eval x) (xs.map a.eval) _ (hc.ev x) (hc.evs xs) h
 refine a8 ?_ (hn _ [] [] _ _ _ _ hK (.refl hc.mem) hV)
 obtain⟨cs,hr⟩:=qI (P:=P) (ρ:=a.eval) ho (w:=w)
 rw[hr]
 have hm:(args.map a.eval).toList=a.eval x::xs.map a.eval:=by simp[ha]
 cases up
 ·simp only[iQ,eQ,builtin,Builtin.min_,hm,Sem.run_bind]at dD ⊢
  rw[dD];simp
 ·simp only[gw,builtin,Builtin.max_,hm,Sem.run_bind]at dD ⊢
  rw[dD];simp
theorem G1{ρ:Operand→Value}{t:TypeId}{x i:Operand}(ho:o.op= .index t x i){k:IntKind}{n:Int}{s:ByteArray}
  (hu:P.underlying t=some .string) (hx:ρ x= .string s) (hi:ρ i= .int k n) (h0:0≤n) (h1:n<(s.size:Int)):
  (execOp ρ o).run P w= .ok (.value (.int .u8 ((s.data.getD n.toNat 0).toNat:Int))) w:=by
 have eZ:n.toNat<s.size:=ω
 have hs:s[n.toNat]? =some (s[n.toNat]'eZ):=by simp[eZ]
 have he:s[n.toNat]'eZ=s.data.getD n.toNat 0:=by
  have vX:n.toNat<s.data.size:=eZ
  rw[Array.getD,dif_pos vX];rfl
 simp[execOp,ho,hx,hi,Instr.index,asIntOf,run_underlying hu,h0,hs,he]
theorem Vd(hE:EnvTy P E)(hc:Core c σ a.tmps w M ν){t:TypeId}{x i:Operand}(ho:o.op= .index t x i){K:iU α}{τ:Ty}(ht:E.ty t=some τ)
  (h:vN τ (σ.ρ x) (σ.ρ i) (λv=>K v [] [])=some r) (hn:fX c σ a o w M ν K r next):o.wp P a w next Q:=by
 unfold vN at h
 obtain⟨k,n,hi,h2⟩:=mZ h
 clear h
 have h:=h2
 clear h2
 have Rc:=hc.ev i
 rw[hi]at Rc
 have Rc:=Rc.int
 have hv:=hc.ev x
 have zG:=hE.ty t τ ht
 split at h
 ·rename_i len e υ l hx
  obtain⟨e',Po,hle⟩:=zG.arr
  obtain⟨e1,h⟩:=bB h
  subst e1
  obtain⟨lK,h⟩:=cA h
  obtain⟨h0,h1⟩:=tT lK
  rw[hx]at hv
  simp only[VR]at hv
  obtain⟨cs,hu,hr⟩:=hv.agg rfl
  have eJ:=hr.idx (i:=n.toNat) ω
  refine a8 (GX ho Po hle hu Rc h0 h1 eJ) (hn _ [] [] _ _ _ _ h (.refl hc.mem) ?_)
  simp only[VR]
  exact V.cJ eJ
 ·rename_i s hx
  obtain⟨lK,h⟩:=cA h
  obtain⟨h0,h1⟩:=tT lK
  rw[hx]at hv
  refine a8 (G1 ho zG.str hv.str Rc h0 h1) (hn _ [] [] _ _ _ _ h (.refl hc.mem) (.mkInt _ _))
 ·cases h
theorem ov(τ:Ty):τ.di.length=τ.size:=(Rd.zero default (λ_=>False) τ).length
theorem C1{z:Array Value}{n i s:Nat}(hz:z.size=s)(hi:i*s+s≤n):((madeCells z n).toList.drop (i*s)).take s=z.toList:=by
 apply zi
 intro j
 rw[lE]
 split
 ·rename_i hj
  rw[lF,gL,gL]
  simp only[madeCells,Array.getElem?_map]
  rw[Array.getElem?_range,aj ω]
  simp only[Option.map_some]
  have:(i*s+j)%z.size=j:=by rw[hz,En,Nat.mul_add_mod,Nat.mod_eq_of_lt hj]
  rw[this,Lm ω,getElem!_pos z j ω]
 ·rename_i hj
  rw[gL,Ls ω]
theorem qJ.made(w:World)(M:Nat→Prop)(e:Ty){n l:Nat}(h:l*e.size≤n):qJ w M e (madeCells (cJ e e.di).cells n).toList (List.replicate l e.zero):=by
 intro i hi
 rw[cP]at hi
 have:=eh (s:=e.size) hi
 rw[C1 (by rw[←bG,gM,ov]) ω,gM,Lt]
 exact Rd.zero w M e
theorem A5{ρ:Operand→Value}{t:TypeId}{x y:Operand}(ho:o.op= .makeSlice t x y){v:Value}{w':World}(h:(Instr.makeSlice t (ρ x) (ρ y)).run P w= .ok v w'):(execOp ρ o).run P w= .ok (.value v) w':=by
 simp[execOp,ho,h]
theorem JE(hE:EnvTy P E)(hc:Core c σ a.tmps w M ν){t:TypeId}{x y:Operand}(ho:o.op= .makeSlice t x y){K:iU α}{e:Ty}(ht:E.ty t=some (.slice e)){id:Nat}
  (h:vJ (σ.ρ x) (λ_ l=>vJ (σ.ρ y) λ_ c=>cond (jR l c)
   (qE σ.H id (.own e []) (K (.ref id) [id] [(id,some (.own e (List.replicate l.toNat e.zero)))])) none)=some r) (hn:fX c σ a o w M ν K r next):o.wp P a w next Q:=by
 obtain⟨k,l,hx,h1⟩:=mZ h
 obtain⟨k',n,hy,h2⟩:=mZ h1
 clear h h1
 obtain⟨hk,h⟩:=cA h2
 obtain⟨bg,h⟩:=kU h
 rw[HH]at hk
 obtain⟨h0,h1,h3⟩:=bz hk
 simp only[zw]at h3
 obtain⟨e',hu,hle⟩:=(hE.ty t _ ht).slice
 obtain⟨i,hi,hs,hz,hb⟩:=hle.base
 have JF:=hc.ev x
 have CZ:=hc.ev y
 rw[hx]at JF;rw[hy]at CZ
 have agO:(i.bytes:Int)*n≤281474976710656:=by
  have h4:(i.bytes:Int)≤2048:=ω
  have:(i.bytes:Int)*n≤2048*n:=y5 h4 ω
  omega
 have dD:=run_make (P:=P) w t e' i _ hu hi hz k k' l n h0 h1 agO ω
 have hlen:(List.replicate l.toNat e.zero).length=l.toNat:=cP
 have ic:=Tr.row hc.mem bg e' (e:=e) (cs:=madeCells (cJ e e.di).cells (n.toNat*i.size)) (l:=List.replicate l.toNat e.zero) (cap:=n.toNat) (by rw[hlen];omega) (by simp[maxLen];omega)
  (by rw[size_madeCells,hs]) (qJ.made w M e (vD ω ω))
 refine a8 (A5 ho (by rw[JF.int,CZ.int];exact dD)) (hn _ _ _ _ _ _ _ h ic ?_)
 simp only[VR]
 exact⟨by show bW σ.H id _ id≠none;rw[ay];simp,by simp[dg]⟩
end VM
end
