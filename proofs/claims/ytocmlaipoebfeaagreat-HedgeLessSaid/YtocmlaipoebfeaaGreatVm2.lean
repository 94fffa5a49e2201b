/- A part of the proof of HedgeLess of layer 22: a machine that reads a function of the program as an equation between values. -/
import Derived.Test.YtocmlaipoebfeaaGreatVm1
set_option linter.all false
section
namespace VM
open Go
variable{P:Program}{E:Env}{o:Oper}{a:Act}{w:World}{M:Nat→Prop}{ν:Nat→Value}{σ:St}{c:Ctx}{α:Type}{r:α}{next:Act→World→Prop}{Q:Exit→Act→World→Prop}
theorem ba{v:Value}{w':World}(h:(execOp a.eval o).run P w= .ok (.value v) w')(hn:next (a.put o.dst v) w'):o.wp P a w next Q:=by
 unfold Oper.wp Oper.upon;rw[h];exact hn
theorem rW{w':World}(h:(execOp a.eval o).run P w= .ok .skip w')(hn:next (a.put o.dst undef) w'):o.wp P a w next Q:=by
 unfold Oper.wp Oper.upon;rw[h];exact hn
def fX(c:Ctx)(σ:St)(a:Act)(o:Oper)(w:World)(M:Nat→Prop)(ν:Nat→Value)(K:jg α)(r:α)(next:Act→World→Prop):Prop:=
 ∀v rd ups v' w' M' ν',K v rd ups=some r→Tr c σ.H w M ν (c9 σ.H ups) w' M' ν'→VR w' M' (c9 σ.H ups) ν' v v'→next (a.put o.dst v') w'
theorem Core.ev(h:Core c σ a.tmps w M ν)(x:Operand):VR w M σ.H ν (σ.ρ x) (a.eval x):=h.op a.defers x
theorem nF{x:bI}{k:IntKind→Int→Option α}(h:xb x k=some r): ∃(i:IntKind) (n:Int),x= .val (.int i) n∧k i n=some r:=by
 unfold xb at h
 split at h
 ·exact⟨_,_,rfl,h⟩
 ·cases h
theorem VR.int{H:Nat→Option bl}{k:IntKind}{n:Int}{v:Value}(h:VR w M H ν (.val (.int k) n) v):v= .int k n:=by
 simp only[VR,V,Ty.isAgg,jd,fc,Rd,fu,ec]at h;exact h
theorem VR.bool{H:Nat→Option bl}{b:Bool}{v:Value}(h:VR w M H ν (.val .bool b) v):v= .bool b:=by
 simp only[VR,V,Ty.isAgg,jd,fc,Rd,fu,ec]at h;exact h
theorem VR.str{H:Nat→Option bl}{b:ByteArray}{v:Value}(h:VR w M H ν (.val .str b) v):v= .string b:=by
 simp only[VR,V,Ty.isAgg,jd,fc,Rd,fu,ec]at h;exact h
theorem VR.mkInt{H:Nat→Option bl}(k:IntKind)(n:Int):VR w M H ν (.val (.int k) n) (.int k n):=by simp[VR,V,Ty.isAgg,Rd]
theorem VR.vw{H:Nat→Option bl}(b:Bool):VR w M H ν (.val .bool b) (.bool b):=by simp[VR,V,Ty.isAgg,Rd]
theorem VR.mkStr{H:Nat→Option bl}(b:ByteArray):VR w M H ν (.val .str b) (.string b):=by simp[VR,V,Ty.isAgg,Rd]
theorem Tq(hc:Core c σ a.tmps w M ν){x:Operand}(ho:o.op= .move x∨o.op= .assign x){K:jg α}(h:K (σ.ρ x) [] []=some r)(hn:fX c σ a o w M ν K r next):o.wp P a w next Q:=by
 have hr:(execOp a.eval o).run P w= .ok (.value (a.eval x)) w:=by
  rcases ho with ho|ho
  ·simp[execOp,ho]
  ·simp[execOp,ho]
 exact ba hr (hn _ _ _ _ _ _ _ h (.refl hc.mem) (hc.ev x))
theorem abC(hc:Core c σ a.tmps w M ν){x y z:Operand}(ho:o.op= .pick x y z){K:jg α}{t:Bool}(hx:σ.ρ x= .val .bool t)(h:cond t (K (σ.ρ y) [] []) (K (σ.ρ z) [] [])=some r)
  (hn:fX c σ a o w M ν K r next):o.wp P a w next Q:=by
 have hv:=hc.ev x
 rw[hx]at hv
 refine ba (Np ho hv.bool) ?_
 cases t
 ·exact hn _ _ _ _ _ _ _ h (.refl hc.mem) (hc.ev z)
 ·exact hn _ _ _ _ _ _ _ h (.refl hc.mem) (hc.ev y)
theorem lK{H:Nat→Option bl}{id:Nat}{e:bl}{K:Option α}(h:rQ H id e K=some r):H id=none∧K=some r:=by
 unfold rQ at h
 split at h
 ·rename_i h';exact⟨h',h⟩
 ·cases h
theorem VR.aif{H:Nat→Option bl}{id:Nat}{τ:Ty}{x:τ.den}{b:Nat}(bo:H id=some (.obj τ x))(hν:ν id= .pointer (some ⟨b,0,none⟩)):VR w M H ν (.jr id []) (.pointer (some ⟨b,0,none⟩)):=by
 simp only[VR]
 exact⟨_,bo,trivial,b,hν,rfl⟩
theorem VR.XA{H:Nat→Option bl}{id:Nat}{τ:Ty}{x:τ.den}{q:List Step}{j b:Nat}(bo:H id=some (.ga τ x q j))(hν:ν id= .pointer (some ⟨b,0,none⟩)):VR w M H ν (.jr id []) (.pointer (some ⟨b,0,none⟩)):=by
 simp only[VR]
 exact⟨_,bo,trivial,b,hν,rfl⟩
theorem gS(τ:Ty):(cR τ τ.du).cells.toList=τ.du:=Ij (Rd.zero default (λ_=>False) τ)
theorem Nq: ∀{τ:Ty} {n:Nat} {a:Ty},KK τ n=some a→ ∃l m,τ.du=l++(a.du++m)∧l.length=sV τ n:=by
 intro τ
 induction τ with
 |pair a b _ Xz=>
  intro n c h
  cases n with
  |zero=>cases h;exact⟨[],b.du,rfl,rfl⟩
  |succ n=>
   obtain⟨l,m,h1,h2⟩:=Xz (n:=n) (a:=c) h
   refine⟨a.du++l,m,by simp only[Ty.du];rw[h1,bH],?_⟩
   rw[aM,h2,(Rd.zero default (λ_=>False) a).length];rfl
 |_=>intro n c h;simp[KK]at h
theorem AG: ∀{p:List Step} {τ υ:Ty},gN p τ υ=true→ ∃l m,τ.du=l++(υ.du++m)∧l.length=cJ p τ
 |[],τ,υ,h=>by
  have h:=bA h
  subst h
  exact⟨[],[],by simp,rfl⟩
 | .kE n::p,τ,υ,h=>by
  unfold gN at h
  split at h
  ·rename_i a ha
   obtain⟨l,m,h1,h2⟩:=Nq ha
   obtain⟨l',m',h3,h4⟩:=AG h
   obtain⟨_,_,hf⟩:=uH ha τ.zero
   have:=hf.eq.1
   subst this
   refine⟨l++l',m'++m,by rw[h1,h3];simp,?_⟩
   rw[aM,h2,h4];rfl
  ·cases h
 | .idx _::_,_,_,h=>by simp[gN]at h
theorem I9{p:List Step}{τ e:Ty}(h:gN p τ (.slice e)=true):τ.du[cJ p τ]? =some (.slice none 0 0):=by
 obtain⟨l,m,h1,h2⟩:=AG h
 rw[h1,lY ω,h2,lG];rfl
theorem cF{b:Bool}{K:Option α}(h:cond b K none=some r):b=true∧K=some r:=by
 cases b
 ·cases h
 ·exact⟨rfl,h⟩
theorem Ts{τ:Ty}{q:List Step}{e:Ty}(h:lkT E τ=some (q,e)):gN q τ (.slice e)=true:=by
 unfold lkT at h
 split at h
 ·rename_i υ q' e' _ _
  cases hd:decide (υ=τ)<;>rw[hd]at h
  ·cases h
  ·simp only[ak]at h
   cases hp:gN q' τ (.slice e')<;>rw[hp]at h
   ·cases h
   ·cases h;exact hp
 ·cases h
theorem uR{τ:Ty}{id:Nat}{q:List Step}{e:Ty}(h:KM E τ id=some (q,e)):gN q τ (.slice e)=true:=by
 unfold KM at h
 split at h
 ·exact Ts (cF h).2
 ·cases h
theorem FP{H:Nat→Option bl}{id:Nat}{τ:Ty}{x:τ.den}{q:List Step}{e:Ty}{K:jg α}(h:D0 H id τ x q e K=some r):H id=none∧H (id+1)=none∧K (.jr id []) [id,id+1] [(id,some (.ga τ x q (id+1))),(id+1,some (.own e []))]=some r:=by
 unfold D0 at h
 obtain⟨h1,h⟩:=lK h
 obtain⟨h2,h⟩:=lK h
 exact⟨h1,h2,h⟩
theorem U0{H:Nat→Option bl}{i j:Nat}{u v:Option bl}(h:i≠j):bZ (bZ H i u) j v=bZ (bZ H j v) i u:=by
 funext k
 by_cases hi:k=i
 ·subst hi;rw[az _ _ h,ay,ay]
 ·by_cases hj:k=j
  ·subst hj;rw[ay,az _ _ hi,ay]
  ·rw[az _ _ hj,az _ _ hi,az _ _ hi,az _ _ hj]
theorem zm{H:Nat→Option bl}{i:Nat}{u v:Option bl}:bZ (bZ H i u) i v=bZ H i v:=by
 funext k
 by_cases hi:k=i
 ·subst hi;rw[ay,ay]
 ·rw[az _ _ hi,az _ _ hi,az _ _ hi]
theorem Tr.XB{H:Nat→Option bl}(h:Mem c H w M ν){id k:Nat}(hk:H k=none){τ:Ty}{x:τ.den}(bo:H id=some (.obj τ x)){b:Nat}{cs:Array Value}{t:TypeId}(hb:ν id= .pointer (some ⟨b,0,none⟩))(hg:w.heap[b]? =some (.cells cs t (0,0)))
  {q:List Step} {e:Ty} (hq:gN q τ (.slice e)=true) {ad:Option Addr} (hz:cs.toList[cJ q τ]? =some (.slice ad 0 0)):
  Tr c H w M ν (c9 H [(id,some (.ga τ x q k)),(k,some (.own e []))]) w M (dr ν k (.slice ad 0 0)):=by
 have iI:k≠id:=λe=>by rw[e,bo]at hk;cases hk
 have h2:=Tr.nothing h hk e ad
 have hd2:bZ H k (some (.own e [])) id=some (.obj τ x):=by rw[az _ _ (eU iI)];exact bo
 have hν:dr ν k (.slice ad 0 0) id= .pointer (some ⟨b,0,none⟩):=by unfold dr;rw[aj (eU iI)];exact hb
 have hν1:dr ν k (.slice ad 0 0) k= .slice ad 0 0:=by simp[dr]
 have he:=h2.mem.ll id _ hd2
 simp only[ER]at he
 obtain⟨b',cs',t',fg,hg',hM,ld⟩:=he
 rw[hν]at fg;cases fg
 rw[hg]at hg';cases hg'
 have h3:=Tr.Im h2.mem hd2 trivial (e':= .ga τ x q k) trivial rfl (λ_ _=>by simp) (by
   rw[hν];simp only[ER]
   exact⟨_,cs,t,cs.toList,.slice ad 0 0,rfl,hg,hM,ld,(Nm hz).symm,rfl,e,hq⟩)
  (fun τ' x' p' j' hl=>by
   cases hl
   refine⟨by rw[ay];simp,_,hν,?_⟩
   rw[hν1,cell_of hg,←gP];exact hz)
 rw[U0 (i:=k) (j:=id) iI]at h3
 exact h2.trans h3
theorem Tr.D0{H:Nat→Option bl}(h:Mem c H w M ν){id:Nat}(bo:H id=none)(qb:H (id+1)=none)(t:TypeId){τ:Ty}{cs:Array Value}{x:τ.den}(hr:Rd w M τ cs.toList x){q:List Step}{e:Ty}(hq:gN q τ (.slice e)=true){ad:Option Addr}
  (hz:cs.toList[cJ q τ]? =some (.slice ad 0 0)):
  ∃M' ν',Tr c H w M ν (c9 H [(id,some (.ga τ x q (id+1))),(id+1,some (.own e []))]) (w.alloc (.cells cs t)) M' ν'∧ν' id= .pointer (some ⟨w.heap.size,0,none⟩):=by
 have h1:=Tr.var h bo t hr
 have h2:=Tr.XB h1.mem (id:=id) (k:=id+1) (by rw[az _ _ ω];exact qb) (ay _ _ _) (by simp[dr]) (FL w _) hq hz
 have e1:c9 (bZ H id (some (.obj τ x))) [(id,some (.ga τ x q (id+1))),(id+1,some (.own e []))]=c9 H [(id,some (.ga τ x q (id+1))),(id+1,some (.own e []))]:=by
  show bZ (bZ (bZ H id _) id _) (id+1) _=bZ (bZ H id _) (id+1) _
  rw[zm]
 rw[e1]at h2
 exact⟨_,_,h1.trans h2,by simp[dr]⟩
theorem XC(hE:EnvTy P E)(hc:Core c σ a.tmps w M ν){t:TypeId}(ho:o.op= .alloc t){K:jg α}{τ:Ty}(ht:E.ty t=some τ){id:Nat}
  (h:(match KM E τ id with
   |some (q,e)=>D0 σ.H id τ τ.zero q e K
   |none=>rQ σ.H id (.obj τ τ.zero) (K (.jr id []) [id] [(id,some (.obj τ τ.zero))]))=some r) (hn:fX c σ a o w M ν K r next):o.wp P a w next Q:=by
 obtain⟨i,hi,hs,hz,_⟩:=(hE.ty t τ ht).base
 have hr:Rd w M τ (cR τ τ.du).cells.toList τ.zero:=by rw[gS];exact Rd.zero w M τ
 split at h
 ·rename_i q e tV
  obtain⟨bo,qb,h⟩:=FP h
  obtain⟨M',ν',iw,hν⟩:=Tr.D0 hc.mem bo qb t hr (uR tV) (by rw[gS];exact I9 (uR tV))
  refine ba (AE ho hi hz w) (hn _ _ _ _ _ M' ν' h iw ?_)
  exact VR.XA (by show bZ _ (id+1) _ id=_;rw[az _ _ ω,ay]) hν
 ·obtain⟨bo,h⟩:=lK h
  refine ba (AE ho hi hz w) (hn _ _ _ _ _ _ _ h (Tr.var hc.mem bo t hr) (VR.aif (ay _ _ _) (by simp[dr])))
theorem Tt(hE:EnvTy P E)(hc:Core c σ a.tmps w M ν){t:TypeId}{x:Operand}(ho:o.op= .box t x){K:jg α}{τ:Ty}{id:Nat}
  (h:mw true (σ.ρ x) σ.H τ (λy rd ups=>rQ σ.H id (.obj τ y) (K (.jr id []) (id::rd) (ups++[(id,some (.obj τ y))])))=some r) (hn:fX c σ a o w M ν K r next):o.wp P a w next Q:=by
 obtain⟨y,rd,ups,M',h,iw,hV,hz,_⟩:=oy (.refl _) hc.mem (hc.ev x) h
 obtain⟨bo,h⟩:=lK h
 have ajr:c9 σ.H ups id=none:=hz.none bo
 have xm:=iw.trans (Tr.var iw.mem ajr t hV.cells)
 refine ba (FM ho w) (hn _ _ _ _ _ (λb=>M' b∨b=w.heap.size) (dr ν id (.pointer (some ⟨w.heap.size,0,none⟩))) h ?_ ?_)
 ·rw[gl];exact xm
 ·rw[gl];exact VR.aif (ay _ _ _) (by simp[dr])
theorem ajs(hE:EnvTy P E)(hc:Core c σ a.tmps w M ν){t:TypeId}{x:Operand}(ho:o.op= .box t x){K:jg α}{τ:Ty}{id:Nat}
  (h:(match KM E τ id,σ.ρ x with
   |some ([.kE m],e),.KL υ y n=>cond (Nat.beq m n) (df υ τ y λy=>D0 σ.H id τ y [.kE m] e K) (mw true (σ.ρ x) σ.H τ (λy rd ups=>rQ σ.H id (.obj τ y) (K (.jr id []) (id::rd) (ups++[(id,some (.obj τ y))]))))
   |_,_=>mw true (σ.ρ x) σ.H τ (λy rd ups=>rQ σ.H id (.obj τ y) (K (.jr id []) (id::rd) (ups++[(id,some (.obj τ y))]))))=some r) (hn:fX c σ a o w M ν K r next):o.wp P a w next Q:=by
 split at h
 ·rename_i m e υ y n tV hx
  cases hb:Nat.beq m n
  ·rw[hb]at h
   exact Tt hE hc ho h hn
  ·rw[hb]at h
   have FQ:=fR hb
   subst FQ
   simp only[ak]at h
   obtain⟨e1,h⟩:=bG h
   subst e1
   obtain⟨bo,qb,h⟩:=FP h
   have hv:=hc.ev x
   rw[hx]at hv
   simp only[VR]at hv
   obtain⟨hV,cs,ad,hva,hz⟩:=hv
   have KV:(a.eval x).cells.toList=cs.toList:=by rw[hva];rfl
   obtain⟨M',ν',iw,hν⟩:=Tr.D0 hc.mem bo qb t hV.cells (uR tV) (ad:=ad) (by rw[KV];simpa [cJ]using hz)
   refine ba (FM ho w) (hn _ _ _ _ _ M' ν' h iw ?_)
   exact VR.XA (by show bZ _ (id+1) _ id=_;rw[az _ _ ω,ay]) hν
 ·exact Tt hE hc ho h hn
theorem vx{i:Int}{n:Nat}(h:aY i n=true):0≤i∧i<(n:Int):=by rw[Rx]at h;simpa using h
theorem mK{b:Bool}{K:Option α}(h:cond b none K=some r):b=false∧K=some r:=by
 cases b
 ·exact⟨rfl,h⟩
 ·cases h
theorem C8(hm:Mem c σ.H w M ν){x:bI}{u:Value}(hv:VR w M σ.H ν x u){K:(υ:Ty)→υ.den→List Nat→Option α}(h:la x σ.H K=some r):
  ∃υ y rd,K υ y rd=some r∧ ∃b off cs,u= .pointer (some ⟨b,off,none⟩)∧At w b off cs∧Rd w M υ cs y:=by
 unfold la at h
 split at h
 ·simp only[VR]at hv
  obtain⟨b,off,rfl,_,_,cs,ha,hr⟩:=hv
  exact⟨_,_,_,h,b,off,cs,rfl,ha,hr⟩
 ·rename_i id p
  simp only[VR]at hv
  obtain⟨e,he,oa⟩:=hv
  have mX:=hm.ll id e he
  rw[he]at h
  cases e with
  |obj τ x=>
   obtain⟨υ,y,o',hp,hK⟩:=kg h
   simp only[AR]at oa
   obtain⟨hi,b,hb,rfl⟩:=oa
   simp only[ER]at mX
   obtain⟨b',cs,t,fg,hg,_,hr⟩:=mX
   rw[hb]at fg;cases fg
   have:=hp.eq.2
   subst this
   exact⟨υ,y,_,hK,b,_,_,rfl,At.of_block hg _ _,hp.rd hi hr⟩
  |own e l=>
   simp only[AR]at oa
   obtain⟨i,q,rfl,Ip,hi,b,n,cp,hb,rfl⟩:=oa
   obtain⟨υ,y,o',hp,hK⟩:=kg h
   simp only[ER]at mX
   rcases mX with⟨rfl,_⟩|⟨b',cs,t,cap,fg,hg,_,Xd,hl,FK,hs,hr⟩
   ·simp at Ip
   ·rw[hb]at fg;cases fg
    have:=hp.eq.2
    subst this
    have h1:=hr i Ip
    rw[←kP l i e.zero Ip]at h1
    have h2:=hp.rd hi h1
    have h3:=hp.bound hi
    rw[rF,jL,rG,iB ω]at h2
    exact⟨υ,y,_,hK,b,_,_,rfl,At.of_block hg _ _,h2⟩
  |o8 e l=>
   simp only[AR]at oa
   obtain⟨i,q,rfl,Ip,hi,b,n,cp,hb,rfl⟩:=oa
   obtain⟨υ,y,o',hp,hK⟩:=kg h
   simp only[ER]at mX
   have ld:=mX.1
   simp only[Rd,fu,ec]at ld
   obtain⟨a0,cap,ha0,_,hr⟩:=ld
   obtain⟨b',off,rfl,_,_,cs,qa,hrr⟩:=hr i Ip
   rw[hb]at ha0;cases ha0
   have:=hp.eq.2
   subst this
   rw[fT]at qa
   have aoH:Rd w M e cs (List.getD l i e.zero):=by rw[kP l i e.zero Ip];exact hrr
   have h2:=hp.rd hi aoH
   have h3:=hp.bound hi
   have hlc:=aoH.length
   refine⟨υ,y,_,hK,b,_,_,rfl,?_,h2⟩
   intro j v hj
   rw[mg]at hj
   split at hj
   ·rw[mh]at hj
    have:=qa _ v hj
    rwa [←py]at this
   ·cases hj
  |ga _ _ _ _=>cases h
  |gone=>cases h
 ·cases h
theorem Mem.linked{H:Nat→Option bl}(hm:Mem c H w M ν){id:Nat}{τ:Ty}{x:τ.den}{q:List Step}{j:Nat}(bo:H id=some (.ga τ x q j)):
  ∃b cs t tj e,ν id= .pointer (some ⟨b,0,none⟩)∧w.heap[b]? =some (.cells cs t (0,0))∧M b∧Rd w M τ tj x∧cs.toList=fk tj (cJ q τ) [ν j]∧(ν j).oneCell'=true∧gN q τ (.slice e)=true∧cJ q τ<tj.length∧H j≠none:=by
 have mX:=hm.ll id _ bo
 simp only[ER]at mX
 obtain⟨b,cs,t,tj,u,hb,hg,hM,hr,KV,h1,e,hq⟩:=mX
 obtain⟨hj,b',fg,Tu⟩:=hm.ga id _ _ _ _ bo
 rw[hb]at fg;cases fg
 obtain⟨y,o,hp⟩:=uI hq x
 have fj:cJ q τ<tj.length:=by
  have:=hp.bound (kQ hq).1
  have h2:=hp.eq.2
  have h3:=hr.length
  have:(Ty.slice e).size=1:=rfl
  omega
 have hu:u=ν j:=by
  rw[cell_of hg,←gP,KV,EG fj]at Tu
  exact nr Tu
 subst hu
 exact⟨b,cs,t,tj,e,hb,hg,hM,hr,KV,h1,hq,fj,hj⟩
theorem zn{H:Nat→Option bl}(hm:Mem c H w M ν){id:Nat}{τ:Ty}{x:τ.den}{q:List Step}{j:Nat}(bo:H id=some (.ga τ x q j)){k:τ.den→ja→Option α}(h:DZ j q τ x H k=some r):
  ∃z ups M',k z ups=some r∧Tr c H w M ν (c9 H ups) w M' ν∧Fz H (c9 H ups)∧((∃e l,H j=some (.o8 e l)∧ups=[])∨ ∃e l,H j=some (.own e l)∧ups=[(j,some (.o8 e l))])∧ ∃b cs t,ν id= .pointer (some ⟨b,0,none⟩)∧w.heap[b]? =some (.cells cs t (0,0))∧M' b∧Rd w M' τ cs.toList z:=by
 obtain⟨b,cs,t,tj,e0,hb,hg,hM,hr,KV,h1,hq,fj,hj⟩:=hm.linked bo
 have XD:=(kQ hq).1
 unfold DZ at h
 split at h
 ·rename_i e l H7
  obtain⟨z,hz,FR,H6,yJ⟩:=pD h
  obtain⟨M',iw,hV,hM'⟩:=Tr.freeze hm H7
  refine⟨z,_,M',hz,iw,λi=> ?_,.inr ⟨e,l,H7,rfl⟩,b,cs,t,hb,hg,?_,?_⟩
  ·by_cases hi:i=j
   ·subst hi;exact .inr ⟨e,l,H7,ay _ _ _⟩
   ·exact .inl (az _ _ hi)
  ·refine(hM' b).2 ⟨hM,λhjb=> ?_⟩
   have iI:j≠id:=λe=>by rw[e,bo]at H7;cases H7
   exact hm.AB j id _ _ b iI H7 trivial bo trivial hjb (by rw[hb];rfl)
  ·rw[KV]
   exact yJ w M' tj [ν j] XD (hr.cm iw.cm) (V.slice.1 hV)
 ·rename_i e l H7
  obtain⟨z,hz,FR,H6,yJ⟩:=pD h
  have mX:=hm.ll j _ H7
  simp only[ER]at mX
  refine⟨z,_,M,hz,.refl hm,.refl H,.inl ⟨e,l,H7,rfl⟩,b,cs,t,hb,hg,hM,?_⟩
  rw[KV]
  exact yJ w M tj [ν j] XD hr mX.1
 ·cases h
theorem anZ{τ υ:Ty}{t:TypeId}(hE:EnvTy P E)(ht:E.ty t=some τ)(h:gN ([]:List Step) υ τ=true):υ=τ:=bA h
theorem Rd.ajt{e:Ty}{v:Value}{cs:List Value}{l:List e.den}(h:Rd w M (.slice e) cs l): ∃a n cap,cs=[.slice a n cap]:=by
 simp only[Rd]at h
 obtain⟨a,cap,rfl,_⟩:=h
 exact⟨a,_,cap,rfl⟩
theorem Iq{ρ:Operand→Value}{t:TypeId}{x:Operand}(ho:o.op= .load t x){τ:Ty}(h:kO P τ t)(ha:τ.isAgg=false){b off:Nat}{v:Value}(hx:ρ x= .pointer (some ⟨b,off,none⟩))(hc:w.cell? ⟨b,off,none⟩=some v):
  (execOp ρ o).run P w= .ok (.value v) w:=by
 have:(loadVar t ⟨b,off,none⟩).run P w= .ok v w:=by
  simp[loadVar,uO h,ha,load,Sem.run,hc]
 simp[execOp,ho,hx,Instr.loadAt,Instr.sureAddr,this]
theorem Nr(hE:EnvTy P E)(hc:Core c σ a.tmps w M ν){t:TypeId}{x:Operand}(ho:o.op= .load t x){K:jg α}{τ:Ty}(ht:E.ty t=some τ)
  (h:la (σ.ρ x) σ.H (fun υ y rd=>df υ τ y λz=>K (.val τ z) rd [])=some r) (hn:fX c σ a o w M ν K r next):o.wp P a w next Q:=by
 obtain⟨υ,y,rd,h,b,off,cs,hu,qa,hr⟩:=C8 hc.mem (hc.ev x) h
 obtain⟨e,h⟩:=bG h
 subst e
 refine ba (xk ho (hE.ty t _ ht) hu qa hr) (hn _ _ _ _ _ _ _ h (.refl hc.mem) ?_)
 simp only[VR]
 exact V.cR hr
theorem abD(hE:EnvTy P E)(hc:Core c σ a.tmps w M ν){t:TypeId}{x:Operand}(ho:o.op= .load t x){K:jg α}{τ:Ty}(ht:E.ty t=some τ)
  (h:wy τ (σ.ρ x) σ.H K=some r) (hn:fX c σ a o w M ν K r next):o.wp P a w next Q:=by
 unfold wy at h
 simp only at h
 split at h
 ·rename_i id p hx
  split at h
  ·rename_i υ z q j bo
   have hv:=hc.ev x
   rw[hx]at hv
   simp only[VR]at hv
   obtain⟨e1,RD,oa⟩:=hv
   rw[bo]at RD;cases RD
   simp only[AR]at oa
   obtain⟨hi,b,hb,hu⟩:=oa
   obtain⟨b',cs,te,tj,e0,fg,hg,hM,hr,KV,h1,hq,fj,hj⟩:=hc.mem.linked bo
   rw[hb]at fg;cases fg
   cases hp:Nc p q
   ·rw[hp]at h
    cases B1:yE p q
    ·
     rw[B1]at h
     simp only[av]at h
     obtain⟨υ',y,o',yK,h⟩:=kg h
     obtain⟨e2,h⟩:=bG h
     subst e2
     have hap:=yK.apart hi hq B1
     have ho':=yK.eq.2
     subst ho'
     have H6:=yK.bound hi
     have hlen:=hr.length
     have ld:Rd w M υ' ((cs.toList.drop (cJ p υ)).take υ'.size) y:=by
      rw[KV,KS (by simp only[aK];omega) (by simp only[aK];omega)]
      exact yK.rd hi hr
     refine ba (xk ho (hE.ty t _ ht) hu (At.of_block hg _ _) ld) (hn _ _ _ _ _ M ν h (.refl hc.mem) ?_)
     simp only[VR]
     exact V.cR ld
    ·
     rw[B1]at h
     simp only[av,ak]at h
     obtain⟨z',ups,M',h,iw,_,_,b2,cs2,t2,uM,U1,KW,AH⟩:=zn hc.mem bo h
     rw[hb]at uM;cases uM
     rw[hg]at U1;cases U1
     obtain⟨υ',y,o',yK,h⟩:=kg h
     obtain⟨e2,h⟩:=bG h
     subst e2
     have ho':=yK.eq.2
     subst ho'
     have ld:=yK.rd hi AH
     refine ba (xk ho (hE.ty t _ ht) hu (At.of_block hg _ _) ld) (hn _ _ _ _ _ M' ν h iw ?_)
     simp only[VR]
     exact V.cR ld
   ·
    rw[hp]at h
    have:=B0 hp
    subst this
    simp only[ak]at h
    obtain⟨hpq,hK⟩:=cF h
    have hτ:τ= .slice e0:=(kQ hpq).2.symm.trans (kQ hq).2
    subst hτ
    have Tu:w.cell? ⟨b,cJ p υ,none⟩=some (ν j):=by rw[cell_of hg,←gP,KV,EG fj]
    refine ba (Iq ho (hE.ty t _ ht) rfl hu Tu) (hn _ _ _ _ _ M ν hK (.refl hc.mem) ?_)
    simp only[VR]
    exact⟨hj,trivial⟩
  ·exact Nr hE hc ho ht h hn
 ·exact Nr hE hc ho ht h hn
end VM
end
section
namespace VM
open Go
variable{P:Program}{E:Env}{o:Oper}{a:Act}{w:World}{M:Nat→Prop}{ν:Nat→Value}{σ:St}{c:Ctx}{α:Type}{r:α}{next:Act→World→Prop}{Q:Exit→Act→World→Prop}
theorem Fz.own{H H1:Nat→Option bl}(h:Fz H H1){i:Nat}{e:Ty}{l:List e.den}(hi:H i=some (.own e l)):H1 i=some (.own e l)∨H1 i=some (.o8 e l):=by
 rcases h i with h'|⟨e',l',h1,h2⟩
 ·exact .inl (by rw[h',hi])
 ·rw[hi]at h1;cases h1;exact .inr h2
theorem U2(hE:EnvTy P E)(hc:Core c σ a.tmps w M ν){t:TypeId}{x y:Operand}(ho:o.op= .store t x y){K:jg α}{τ:Ty}(ht:E.ty t=some τ)
  (h:my τ (σ.ρ x) (σ.ρ y) σ.H K=some r) (hn:fX c σ a o w M ν K r next):o.wp P a w next Q:=by
 unfold my at h
 split at h
 ·rename_i id p hx
  obtain⟨z,rd,ups,M',h,iw,hV,hz,ld⟩:=oy (.refl _) hc.mem (hc.ev y) h
  have hv:=hc.ev x
  rw[hx]at hv
  have hvz:=VR.cm iw.cm iw.goes hv
  have AI:=hE.ty t τ ht
  have Ja:=hV.cells.length
  rw[bL]at Ja
  split at h
  ·rename_i υ x0 bo
   have qb:=hz.obj bo
   obtain⟨x1,hK,FR,H6,yJ⟩:=pD h
   simp only[VR]at hvz
   obtain⟨e1,RD,oa⟩:=hvz
   rw[qb]at RD;cases RD
   simp only[AR]at oa
   obtain⟨hi,b,hb,hu⟩:=oa
   have mX:=iw.mem.ll id _ qb
   simp only[ER]at mX
   obtain⟨b',cs,te,fg,hg,hM,hr⟩:=mX
   rw[hb]at fg;cases fg
   have H6:=H6 hi
   have hlc:=hr.length
   rw[bL]at hlc
   have dQ:=nE (P:=P) ho AI hu hg Ja ω hV.cells.o9
   rw[bL]at dQ
   have xm:Tr c (c9 σ.H ups) w M' ν (bZ (c9 σ.H ups) id (some (.obj υ x1))) (w.setRow b (fk cs.toList (cJ p υ) (a.eval y).cells.toList).toArray) M' ν:=by
    refine Tr.write (e':= .obj υ x1) iw.mem qb trivial trivial rfl (by rw[hb];rfl) hg λRl hk B4=> ?_
    simp only[ER]
    refine⟨b,_,te,hb,setRow_heap w b cs _ te _ hg,B4,?_⟩
    exact(yJ w M' cs.toList _ hi hr hV.cells).cm hk
   refine rW dQ ?_
   refine hn _ _ _ _ _ M' ν hK ?_ (by simp[VR])
   rw[gl]
   have:=iw.trans xm
   unfold fk at this
   rw[bL]at this
   exact this
  ·rename_i e l bo
   split at h
   ·rename_i i q h0
    obtain⟨AJ,h⟩:=mK h
    have qb:c9 σ.H ups id=some (.own e l):=by rw[ld id AJ];exact bo
    obtain⟨y1,hK,FR,H6,yJ⟩:=pD h
    simp only[VR]at hvz
    obtain⟨e1,RD,oa⟩:=hvz
    rw[qb]at RD;cases RD
    simp only[AR]at oa
    obtain⟨i',q',hpq,Ip,hi,b,n,cp,hb,hu⟩:=oa
    cases hpq
    have mX:=iw.mem.ll id _ qb
    simp only[ER]at mX
    rcases mX with⟨rfl,_⟩|⟨b',cs,te,cap,fg,hg,hM,Xd,hl,FK,hs,hr⟩
    ·simp at Ip
    ·rw[hb]at fg;cases fg
     have H6:=H6 hi
     have uK:=eG (s:=e.size) Ip
     have yY:l.length*e.size≤cp*e.size:=kJ _ hl
     have dQ:=nE (P:=P) ho AI hu hg Ja ω hV.cells.o9
     rw[bL]at dQ
     have hri:=hr i Ip
     rw[←kP l i e.zero Ip]at hri
     have qd:=yJ w M' _ _ hi hri hV.cells
     have hch:((cs.toList.drop (i*e.size)).take e.size).length=e.size:=hri.length
     have abE:fk cs.toList (i*e.size) (fk ((cs.toList.drop (i*e.size)).take e.size) (cJ q e) (a.eval y).cells.toList)=fk cs.toList (i*e.size+cJ q e) (a.eval y).cells.toList:=by
      have hl3:=qd.length
      have e1:cs.toList=cs.toList.take (i*e.size)++(((cs.toList.drop (i*e.size)).take e.size)++cs.toList.drop (i*e.size+e.size)):=by
       rw[←jL,gb,gb]
      have fj:(cs.toList.take (i*e.size)).length=i*e.size:=by rw[cc,bL];omega
      conv=>rhs;rw[e1]
      rw[show i*e.size+cJ q e=(cs.toList.take (i*e.size)).length+cJ q e from by rw[fj],yh,AA (by rw[hch,bL];omega)]
      generalize fk ((cs.toList.drop (i*e.size)).take e.size) (cJ q e) (a.eval y).cells.toList=m at hl3 ⊢
      unfold fk
      rw[hl3,bH]
     have xm:Tr c (c9 σ.H ups) w M' ν (bZ (c9 σ.H ups) id (some (.own e (List.set l i y1)))) (w.setRow b (fk cs.toList (i*e.size+cJ q e) (a.eval y).cells.toList).toArray) M' ν:=by
      refine Tr.write (e':= .own e (List.set l i y1)) iw.mem qb trivial trivial ⟨rfl,by rw[bM]⟩ (by rw[hb];simp[fI];omega) hg λRl hk B4=> ?_
      simp only[ER]
      refine .inr ⟨b,_,te,cp,by rw[bM];exact hb,setRow_heap w b cs _ te _ hg,B4,Xd,by rw[bM];exact hl,FK,?_,?_⟩
      ·rw[←abE,je,gD (by rw[qd.length,bL];omega),bL];exact hs
      ·have h9:cs.toList.length=cp*e.size:=by rw[bL,hs]
       have h10:=rV.set (w:=w) (M:=M') (cs:=cs.toList) (l:=l) hr (by rw[h9];exact yY) Ip qd
       rw[abE]at h10
       exact λj hj=>(h10 j hj).cm hk
     refine rW dQ ?_
     refine hn _ _ _ _ _ M' ν hK ?_ (by simp[VR])
     rw[gl]
     have:=iw.trans xm
     unfold fk at this
     rw[bL]at this
     exact this
   ·cases h
  ·cases h
 ·cases h
theorem Fz.ga{H H1:Nat→Option bl}(h:Fz H H1){i:Nat}{τ:Ty}{x:τ.den}{p:List Step}{j:Nat}(hi:H i=some (.ga τ x p j)):H1 i=some (.ga τ x p j):=by
 rcases h i with h'|⟨e',l',h1,h2⟩
 ·rw[h',hi]
 ·rw[hi]at h1;cases h1
theorem zo{β:Type}{l a:List β}{o:Nat}(hl:o+a.length≤l.length)(i:Nat):(fk l o a)[i]? =if o≤i∧i<o+a.length then a[i-o]? else l[i]? :=by
 unfold fk
 by_cases h1:i<o
 ·rw[aj ω,bH,tc (by simp;omega),mg,ah h1]
 ·by_cases h2:i<o+a.length
  ·rw[ah ω,tc (by simp;omega),lY (by simp;omega)]
   simp[iB (show o≤l.length by omega)]
  ·rw[aj ω,lY (by simp;omega)]
   simp only[aM,cc,iB (show o≤l.length by omega),mh]
   congr 1;omega
theorem Ns{β:Type}{l a b:List β}{o o':Nat}(h:o'≤o∧o+a.length≤o'+b.length)(h1:o+a.length≤l.length)(h2:o'+b.length≤l.length):fk (fk l o a) o' b=fk l o' b:=by
 have l1:=gD (a:=l) (o:=o) (new:=a) h1
 apply Ah
 intro i
 rw[zo ω,zo ω,zo ω]
 by_cases c1:o'≤i∧i<o'+b.length
 ·rw[ah c1,ah c1]
 ·rw[aj c1,aj c1,aj ω]
theorem Jb{β:Type}{l:List β}{o:Nat}{u v:β}(h:o<l.length):fk (fk l o [u]) o [v]=fk l o [v]:=
 Ns (by simp) (by simp;omega) (by simp;omega)
theorem XE{β:Type}{l a b:List β}{o o':Nat}(h:o+a.length≤o'∨o'+b.length≤o)(h1:o+a.length≤l.length)(h2:o'+b.length≤l.length):fk (fk l o a) o' b=fk (fk l o' b) o a:=by
 have l1:=gD (a:=l) (o:=o) (new:=a) h1
 have l2:=gD (a:=l) (o:=o') (new:=b) h2
 apply Ah
 intro i
 rw[zo ω,zo ω,zo ω,zo ω]
 by_cases c1:o'≤i∧i<o'+b.length
 ·rw[ah c1,aj ω,ah c1]
 ·rw[aj c1]
  by_cases c2:o≤i∧i<o+a.length
  ·rw[ah c2,ah c2]
  ·rw[aj c2,aj c2,aj c1]
theorem Nt{m:(υ:Ty)→υ.den→(υ.den→Option α)→Option α}: ∀{τ:Ty} {x:τ.den} {n:Nat} {k:τ.den→Option α},nA τ x n m k=some r→ ∃υ y o k',D1 τ x n υ y o∧m υ y k'=some r:=λh=>by
 obtain⟨υ,y,o,k',h1,h2,_⟩:=tp h
 exact⟨υ,y,o,k',h1,h2⟩
theorem FT{υ:Ty}{u:υ.den}: ∀{p:List Step} {τ:Ty} {x:τ.den} {k:τ.den→Option α},wJ υ u p τ x k=some r→ ∃y o,KR p τ x υ y o
 |[],τ,x,k,h=>by
  obtain⟨e,_⟩:=bG (h:df υ τ u k=some r)
  subst e
  exact⟨x,0,.nil x⟩
 | .kE n::p,τ,x,k,h=>by
  obtain⟨υ',y,o,k',hf,hm⟩:=Nt (h:nA τ x n _ k=some r)
  obtain⟨y',o',hp⟩:=FT (k:=k') hm
  exact⟨y',_,.kE hf hp⟩
 | .idx i::p,τ,x,k,h=>by
  cases τ with
  |arr n e=>
   obtain⟨y',o',hp⟩:=FT (p:=p) (τ:=e) (x:=List.getD x i e.zero) (k:=λz=>k (List.set x i z)) h
   exact⟨y',_,.idx hp⟩
  |_=>simp[wJ,EC]at h
theorem Jc: ∀{p q:List Step} {τ e:Ty},yE p q=true→gN q τ (.slice e)=true→cJ p τ≤cJ q τ∧cJ q τ+1≤cJ p τ+(Ik p τ).size
 |[],q,τ,e,_,hq=>by
  obtain⟨_,_,yK⟩:=uI hq τ.zero
  have:=yK.bound (kQ hq).1
  have h2:=yK.eq.2
  have:(Ty.slice e).size=1:=rfl
  simp only[cJ,Ik]
  omega
 | .kE a::p,.kE b::q,τ,e,hp,hq=>by
  simp only[yE,bB]at hp
  have:=fR hp.1
  subst this
  unfold gN at hq
  split at hq
  ·rename_i c hc
   obtain⟨_,_,hf⟩:=uH hc τ.zero
   have:=hf.eq.1
   subst this
   have:=Jc hp.2 hq
   simp only[cJ,Ik]
   omega
  ·cases hq
 | .kE _::_,[],_,_,hp,_| .kE _::_,.idx _::_,_,_,hp,_| .idx _::_,_,_,_,hp,_=>by simp[yE]at hp
theorem ER.U3{H:Nat→Option bl}(hm:Mem c H w M ν){k:Nat}{e:Ty}{l:List e.den}(hk:H k=some (.own e l)): ∃ad cp,ν k= .slice ad l.length cp:=by
 have:=hm.ll k _ hk
 simp only[ER]at this
 rcases this with⟨rfl,a,hv⟩|⟨b,cs,t,cap,hv,_⟩
 ·exact⟨a,0,hv⟩
 ·exact⟨_,cap,hv⟩
theorem FU(hE:EnvTy P E)(hc:Core c σ a.tmps w M ν){t:TypeId}{x y:Operand}(ho:o.op= .store t x y){K:jg α}{τ:Ty}(ht:E.ty t=some τ){id k:Nat}{q:List Step}{e:Ty}{υ:Ty}{z:υ.den}
  (hx:σ.ρ x= .jr id q) (hy:σ.ρ y= .ref k) {en:bl} (bo:σ.H id=some en) (hen:en.mut) (Jd:en.lJ (.ga υ z q k)) (hq:gN q υ (.slice e)=true)
  (lL: ∃b cs te tj u,ν id= .pointer (some ⟨b,0,none⟩)∧w.heap[b]? =some (.cells cs te (0,0))∧Rd w M υ tj z∧cs.toList=fk tj (cJ q υ) [u])
  (h:C2 τ id k e q υ z σ.H K=some r) (hn:fX c σ a o w M ν K r next):o.wp P a w next Q:=by
 unfold C2 at h
 split at h
 ·rename_i e' l hk
  obtain⟨e1,h1⟩:=fV h
  clear h
  subst e1
  obtain⟨e2,h2⟩:=fV h1
  clear h1
  subst e2
  obtain⟨z',hK,FR,H6,yJ⟩:=pD h2
  obtain⟨b,cs,te,tj,u,hb,hg,hr,KV⟩:=lL
  have XD:=(kQ hq).1
  obtain⟨ad,cp,hνk⟩:=ER.U3 hc.mem hk
  have D7:=hc.ev y
  rw[hy]at D7
  simp only[VR]at D7
  have D7:=D7.2
  have H6:=H6 XD
  have hlen:=hr.length
  have Tv:(Ty.slice e').size=1:=rfl
  have fj:cJ q υ<tj.length:=ω
  have Ja:cs.toList.length=tj.length:=by rw[KV];exact gD (by simp;omega)
  have hv:=hc.ev x
  rw[hx]at hv
  simp only[VR]at hv
  obtain⟨e3,he3,oa⟩:=hv
  rw[bo]at he3;cases he3
  have oa:=oa.lJ Jd
  simp only[AR]at oa
  obtain⟨_,b',fg,hu⟩:=oa
  rw[hb]at fg;cases fg
  have hyc:(a.eval y).cells.toList=[ν k]:=by rw[D7,hνk];rfl
  have uq:(a.eval y).cells.size=(Ty.slice e').size:=by rw[←bL,hyc];rfl
  have dQ:=nE (P:=P) ho (hE.ty t _ ht) hu hg uq (by rw[←bL];omega) (by rw[hyc,hνk];simp[Value.oneCell'])
  have qd:(cs.toList.take (cJ q υ)++(a.eval y).cells.toList++cs.toList.drop (cJ q υ+(a.eval y).cells.toList.length))=fk tj (cJ q υ) [ν k]:=by
   rw[hyc]
   show fk cs.toList (cJ q υ) [ν k]=_
   rw[KV,Jb fj]
  rw[qd]at dQ
  have hrz:Rd w M υ (fk tj (cJ q υ) [.slice none 0 0]) z':=yJ w M tj [.slice none 0 0] XD hr (Rd.zero w M (.slice e'))
  have iw:Tr c σ.H w M ν (bZ σ.H id (some (.ga υ z' q k))) (w.setRow b (fk tj (cJ q υ) [ν k]).toArray) M ν:=by
   refine Tr.write (e':= .ga υ z' q k) hc.mem bo hen trivial (by cases en<;>simp only[bl.lJ]at Jd ⊢ <;>exact Jd) (by rw[hb];rfl) hg (λRl FV B4=> ?_) (fun τ' x' p' j' hl=> ?_)
   ·simp only[ER]
    refine⟨b,_,te,fk tj (cJ q υ) [.slice none 0 0],ν k,hb,setRow_heap w b cs _ te _ hg,B4,hrz.cm FV,?_,by rw[hνk];rfl,e',hq⟩
    rw[Jb fj]
   ·cases hl
    refine⟨by rw[hk];simp,b,hb,?_⟩
    rw[cell_of (setRow_heap w b cs _ te _ hg),←gP]
    show(fk tj (cJ q υ) [ν k])[cJ q υ]? =_
    rw[EG fj]
  exact rW dQ (hn _ _ _ _ _ M ν hK iw (by simp[VR]))
 ·cases h
theorem FW(hE:EnvTy P E)(hc:Core c σ a.tmps w M ν){t:TypeId}{x y:Operand}(ho:o.op= .store t x y){K:jg α}{τ:Ty}(ht:E.ty t=some τ)
  (h:ke E τ (σ.ρ x) (σ.ρ y) σ.H K=some r) (hn:fX c σ a o w M ν K r next):o.wp P a w next Q:=by
 have hold:my τ (σ.ρ x) (σ.ρ y) σ.H K=some r→o.wp P a w next Q:=λh=>U2 hE hc ho ht h hn
 unfold ke at h
 simp only at h
 split at h
 ·rename_i id p hx
  have uQ:=hx
  split at h
  ·rename_i υ z bo
   split at h
   ·rename_i q e k tV hy
    cases hp:Nc p q
    ·rw[hp]at h;exact hold h
    ·rw[hp]at h
     simp only[ak]at h
     have:=B0 hp
     subst this
     have hq:=uR tV
     have mX:=hc.mem.ll id _ bo
     simp only[ER]at mX
     obtain⟨b,cs,te,hb,hg,hM,hr⟩:=mX
     have fj:cJ p υ<cs.toList.length:=by
      obtain⟨_,_,yK⟩:=uI hq z
      have:=yK.bound (kQ hq).1
      have h2:=yK.eq.2
      have:=hr.length
      have:(Ty.slice e).size=1:=rfl
      omega
     refine FU hE hc ho ht hx hy bo trivial rfl hq ⟨b,cs,te,cs.toList,cs.toList[cJ p υ],hb,hg,hr,?_⟩ h hn
     exact(Nm (bg fj)).symm
   ·exact hold h
  ·rename_i υ z q j bo
   obtain⟨b,cs,te,tj,e0,hb,hg,hM,hr,KV,h1,hq,fj,hj⟩:=hc.mem.linked bo
   have AK:mw true (σ.ρ y) σ.H τ (λy rd ups=>wJ τ y p υ z λz=>K .any (id::rd) (ups++[(id,some (cond (yE p q) (.obj υ z) (.ga υ z q j)))]))=some r→o.wp P a w next Q:=by
    intro h
    obtain⟨u,rd,ups,M',h,iw,hV,hz,ld⟩:=oy (.refl _) hc.mem (hc.ev y) h
    have qb:=hz.ga bo
    have hv:=hc.ev x
    rw[hx]at hv
    have hvz:=VR.cm iw.cm iw.goes hv
    simp only[VR]at hvz
    obtain⟨e1,RD,oa⟩:=hvz
    rw[qb]at RD;cases RD
    simp only[AR]at oa
    obtain⟨hi,b1,mJ,hu⟩:=oa
    rw[hb]at mJ;cases mJ
    obtain⟨b2,cs2,te2,cs3,e3,uM,U1,KW,AH,abF,h12,hq2,aoO,hj2⟩:=iw.mem.linked qb
    rw[hb]at uM;cases uM
    rw[hg]at U1;cases U1
    obtain⟨z',hK,FR,H6,yJ⟩:=pD h
    have H6:=H6 hi
    have hlc:=AH.length
    have Ja:cs.toList.length=cs3.length:=by rw[abF];exact gD (by simp;omega)
    have hcy:=hV.cells.length
    rw[bL]at hcy
    have aBM:(a.eval y).cells.toList.length=τ.size:=by rw[bL];exact hcy
    have dQ:=nE (P:=P) ho (hE.ty t _ ht) hu hg hcy (by rw[←bL];omega) hV.cells.o9
    have XF:cs.toList.take (cJ p υ)++(a.eval y).cells.toList++cs.toList.drop (cJ p υ+(a.eval y).cells.toList.length)=fk cs.toList (cJ p υ) (a.eval y).cells.toList:=rfl
    rw[XF]at dQ
    have hzr:=yJ w M' cs3 _ hi AH hV.cells
    have fin: ∀e',e'.mut→bl.lJ (.ga υ z q j) e'→K .any (id::rd) (ups++[(id,some e')])=some r→(∀Rl,fi w M' (w.setRow b (fk cs.toList (cJ p υ) (a.eval y).cells.toList).toArray) Rl→Rl b→ER (w.setRow b (fk cs.toList (cJ p υ) (a.eval y).cells.toList).toArray) Rl (ν id) e')→
      (∀τ' x' p' j',e'= .ga τ' x' p' j'→(c9 σ.H ups) j'≠none∧ ∃b',ν id= .pointer (some ⟨b',0,none⟩)∧(w.setRow b (fk cs.toList (cJ p υ) (a.eval y).cells.toList).toArray).cell? ⟨b',cJ p' τ',none⟩=some (ν j'))→o.wp P a w next Q:=by
     intro e' jY KQ hK UX tV
     have xm:=Tr.write (e':=e') iw.mem qb trivial jY KQ (by rw[hb];rfl) hg UX tV
     refine rW dQ (hn _ _ _ _ _ M' ν hK ?_ (by simp[VR]))
     rw[gl]
     exact iw.trans xm
    cases B1:yE p q
    ·rw[B1]at hK
     simp only[av]at hK
     obtain⟨yy,oo,yK⟩: ∃y o,KR p υ z τ y o:=FT h
     have hap:=yK.apart hi hq B1
     have hoo:=yK.eq.2
     subst hoo
     have aii:fk cs.toList (cJ p υ) (a.eval y).cells.toList=fk (fk cs3 (cJ p υ) (a.eval y).cells.toList) (cJ q υ) [ν j]:=by
      rw[abF]
      exact XE (by simp only[aK];omega) (by simp only[aK];omega) ω
     have hl3:=gD (a:=cs3) (o:=cJ p υ) (new:=(a.eval y).cells.toList) ω
     refine fin (.ga υ z' q j) trivial rfl hK (λRl hk B4=> ?_) (fun τ' x' p' j' hl=> ?_)
     ·simp only[ER]
      exact⟨b,_,te,_,ν j,hb,setRow_heap w b cs _ te _ hg,B4,hzr.cm hk,aii,h1,e0,hq⟩
     ·cases hl
      refine⟨hj2,b,hb,?_⟩
      rw[cell_of (setRow_heap w b cs _ te _ hg),←gP]
      show(fk cs.toList (cJ p υ) (a.eval y).cells.toList)[cJ q υ]? =_
      rw[aii,EG ω]
    ·rw[B1]at hK
     simp only[ak]at hK
     refine fin (.obj υ z') trivial rfl hK (λRl hk B4=> ?_) (fun τ' x' p' j' hl=>by cases hl)
     simp only[ER]
     refine⟨b,_,te,hb,setRow_heap w b cs _ te _ hg,B4,?_⟩
     show Rd _ _ υ (fk cs.toList (cJ p υ) (a.eval y).cells.toList) z'
     have lj:=Jc B1 hq
     rw[FR]at lj
     have ho:fk cs.toList (cJ p υ) (a.eval y).cells.toList=fk cs3 (cJ p υ) (a.eval y).cells.toList:=by
      rw[abF]
      exact Ns (by simp only[aK];omega) (by simp only[aK];omega) ω
     have h9:=hzr.cm hk
     rw[←ho]at h9
     exact h9
   split at h
   ·rename_i q' e k tV hy
    cases hp:(Nc p q&&Nc q q')
    ·rw[hp]at h;exact AK h
    ·rw[hp]at h
     simp only[ak]at h
     rw[bB]at hp
     have:=B0 hp.1
     subst this
     have:=B0 hp.2
     subst this
     refine FU hE hc ho ht hx hy bo trivial rfl (uR tV) ⟨b,cs,te,tj,ν j,hb,hg,hr,KV⟩ h hn
   ·exact AK h
  ·exact hold h
 ·exact hold h
theorem U4(hE:EnvTy P E)(hc:Core c σ a.tmps w M ν){t:TypeId}{x y:Operand}(ho:o.op= .store t x y){K:jg α}{τ:Ty}(ht:E.ty t=some τ)
  (h:tS E τ (σ.ρ x) (σ.ρ y) σ.H K=some r) (hn:fX c σ a o w M ν K r next):o.wp P a w next Q:=by
 unfold tS at h
 split at h
 ·rename_i id υ z n hx hy
  split at h
  ·rename_i m e tV
   cases FQ:Nat.beq m n
   ·rw[FQ]at h
    simp only[av]at h
    exact FW hE hc ho ht h hn
   ·rw[FQ]at h
    simp only[ak]at h
    have FQ:=fR FQ
    subst FQ
    obtain⟨e1,h1⟩:=fV h
    clear h
    subst e1
    have hq:=uR tV
    have D7:=hc.ev y
    rw[hy]at D7
    simp only[VR]at D7
    obtain⟨hV,cs,ad,hva,hz⟩:=D7
    have hcy:(a.eval y).cells=cs:=by rw[hva];rfl
    obtain⟨en,bo,hen,hK⟩: ∃en:bl,σ.H id=some en∧(∃z0,en= .obj τ z0∨ ∃q j,en= .ga τ z0 q j)∧σ.H (id+2)=none∧K .any [id,id+2] [(id,some (.ga τ z [.kE m] (id+2))),(id+2,some (.own e []))]=some r:=by
     unfold nC at h1
     split at h1
     ·rename_i υ z0 bo
      obtain⟨e2,h2⟩:=fV h1
      clear h1
      subst e2
      obtain⟨h3,h4⟩:=lK h2
      exact⟨_,bo,⟨z0,.inl rfl⟩,h3,h4⟩
     ·rename_i υ z0 q j bo
      obtain⟨e2,h2⟩:=fV h1
      clear h1
      subst e2
      obtain⟨h3,h4⟩:=lK h2
      exact⟨_,bo,⟨z0,.inr ⟨q,j,rfl⟩⟩,h3,h4⟩
     ·cases h1
     ·cases h1
     ·cases h1
    obtain⟨hk,hK⟩:=hK
    have auP:en.mut:=by rcases hen with⟨z0,rfl|⟨q,j,rfl⟩⟩<;>trivial
    have Jd:en.lJ (.obj τ z):=by rcases hen with⟨z0,rfl|⟨q,j,rfl⟩⟩<;>rfl
    obtain⟨b,tj,te,hb,hg,uq⟩: ∃b tj te,ν id= .pointer (some ⟨b,0,none⟩)∧w.heap[b]? =some (.cells tj te (0,0))∧tj.toList.length=τ.size:=by
     rcases hen with⟨z0,rfl|⟨q,j,rfl⟩⟩
     ·have:=hc.mem.ll id _ bo
      simp only[ER]at this
      obtain⟨b,tj,te,h2,h3,_,h5⟩:=this
      exact⟨b,tj,te,h2,h3,h5.length⟩
     ·obtain⟨b,tj,te,zQ,_,h2,h3,_,h5,h6,_,_,h7,_⟩:=hc.mem.linked bo
      refine⟨b,tj,te,h2,h3,?_⟩
      rw[h6,gD (by simp only[aK];omega),h5.length]
    have hv:=hc.ev x
    rw[hx]at hv
    simp only[VR]at hv
    obtain⟨e3,he3,oa⟩:=hv
    rw[bo]at he3;cases he3
    have oa:=oa.lJ Jd
    simp only[AR]at oa
    obtain⟨_,b',fg,hu⟩:=oa
    rw[hb]at fg;cases fg
    have Ja:=hV.cells.length
    have dQ:=nE (P:=P) ho (hE.ty t _ ht) hu hg (by rw[←bL];exact Ja) (by rw[←bL,uq];simp[cJ]) hV.cells.o9
    have XF:tj.toList.take (cJ [] τ)++(a.eval y).cells.toList++tj.toList.drop (cJ [] τ+(a.eval y).cells.toList.length)=(a.eval y).cells.toList:=by
     simp only[cJ,px,cW,fT]
     rw[kI ω,cH]
    rw[XF]at dQ
    have yJ:=setRow_heap w b tj (a.eval y).cells.toList.toArray te _ hg
    have iw:=Tr.write (e':= .obj τ z) (new:=(a.eval y).cells.toList.toArray) hc.mem bo auP trivial Jd (by rw[hb];rfl) hg (λRl FV B4=>by
     simp only[ER]
     exact⟨b,_,te,hb,yJ,B4,hV.cells.cm FV⟩)
    have iI:id+2≠id:=ω
    have xm:=Tr.XB iw.mem (id:=id) (k:=id+2) (by rw[az _ _ iI];exact hk) (ay _ _ _) hb yJ hq (ad:=ad) (by rw[hcy];simpa [cJ]using hz)
    have e1:c9 (bZ σ.H id (some (.obj τ z))) [(id,some (.ga τ z [.kE m] (id+2))),(id+2,some (.own e []))]=c9 σ.H [(id,some (.ga τ z [.kE m] (id+2))),(id+2,some (.own e []))]:=by
     show bZ (bZ (bZ σ.H id _) id _) (id+2) _=bZ (bZ σ.H id _) (id+2) _
     rw[zm]
    rw[e1]at xm
    exact rW dQ (hn _ _ _ _ _ _ _ hK (iw.trans xm) (by simp[VR]))
  ·exact FW hE hc ho ht h hn
 ·exact FW hE hc ho ht h hn
end VM
end
section
namespace VM
open Go
variable{P:Program}{E:Env}{o:Oper}{a:Act}{w:World}{M:Nat→Prop}{ν:Nat→Value}{σ:St}{c:Ctx}{α:Type}{r:α}{next:Act→World→Prop}{Q:Exit→Act→World→Prop}
theorem nb{n:Nat}(h:Nat.beq n 0=false):n≠0:=by rw[←nk,w8]at h;exact h
theorem At.sub{b off:Nat}{cs:List Value}(h:At w b off cs)(o n:Nat):At w b (off+o) ((cs.drop o).take n):=by
 intro j v hj
 rw[mg]at hj
 split at hj
 ·rw[mh]at hj
  have:=h _ v hj
  rwa [←py]at this
 ·cases hj
def xn:bl→List Step→Option Ty
 | .obj τ _,p=>some (Ik p τ)
 | .ga τ _ _ _,p=>some (Ik p τ)
 | .own e _,.idx _::p| .o8 e _,.idx _::p=>some (Ik p e)
 |_,_=>none
theorem FX{id:Nat}{p:List Step}{H:Nat→Option bl}{k:Ty→Option α}(h:nC id p H k=some r): ∃e υ,H id=some e∧xn e p=some υ∧k υ=some r:=by
 unfold nC at h
 split at h
 ·rename_i τ x bo
  obtain⟨υ,y,o,hp,hk⟩:=kg h
  exact⟨_,υ,bo,by simp[xn,hp.eq.1],hk⟩
 ·rename_i τ x _ _ bo
  obtain⟨υ,y,o,hp,hk⟩:=kg h
  exact⟨_,υ,bo,by simp[xn,hp.eq.1],hk⟩
 ·rename_i e l bo
  split at h
  ·obtain⟨υ,y,o,hp,hk⟩:=kg h
   exact⟨_,υ,bo,by simp[xn,hp.eq.1],hk⟩
  ·cases h
 ·rename_i e l bo
  split at h
  ·obtain⟨υ,y,o,hp,hk⟩:=kg h
   exact⟨_,υ,bo,by simp[xn,hp.eq.1],hk⟩
  ·cases h
 ·cases h
theorem AR.step{v:Value}{p:List Step}{u:Value}{e:bl}{υ:Ty}(h:AR v p u e)(ht:xn e p=some υ)(s:Step)(hs:yH [s] υ):
  ∃b off,u= .pointer (some ⟨b,off,none⟩)∧AR v (p++[s]) (.pointer (some ⟨b,off+cJ [s] υ,none⟩)) e:=by
 cases e with
 |obj τ x=>
  simp only[xn,iA]at ht
  simp only[AR]at h ⊢
  obtain⟨hi,b,hb,rfl⟩:=h
  subst ht
  exact⟨b,_,rfl,(ti p [s] τ).2 ⟨hi,hs⟩,b,hb,by rw[th]⟩
 |ga τ x _ _=>
  simp only[xn,iA]at ht
  simp only[AR]at h ⊢
  obtain⟨hi,b,hb,rfl⟩:=h
  subst ht
  exact⟨b,_,rfl,(ti p [s] τ).2 ⟨hi,hs⟩,b,hb,by rw[th]⟩
 |own e l=>
  simp only[AR]at h ⊢
  obtain⟨i,q,rfl,Ip,hi,b,n,cp,hb,rfl⟩:=h
  simp only[xn,iA]at ht
  subst ht
  exact⟨b,_,rfl,i,q++[s],rfl,Ip,(ti q [s] e).2 ⟨hi,hs⟩,b,n,cp,hb,by rw[th,py]⟩
 |o8 e l=>
  simp only[AR]at h ⊢
  obtain⟨i,q,rfl,Ip,hi,b,n,cp,hb,rfl⟩:=h
  simp only[xn,iA]at ht
  subst ht
  exact⟨b,_,rfl,i,q++[s],rfl,Ip,(ti q [s] e).2 ⟨hi,hs⟩,b,n,cp,hb,by rw[th,py]⟩
 |gone=>simp[xn]at ht
theorem B5(hE:EnvTy P E)(hc:Core c σ a.tmps w M ν){t:TypeId}{x:Operand}{n:Nat}(ho:o.op= .fieldAddr t x n){K:jg α}{τ:Ty}(ht:E.ty t=some τ){id:Nat}{p:List Step}(hx:σ.ρ x= .jr id p)
  (h:nC id p σ.H (fun υ=>nB υ τ (yF τ τ.zero n fun υ' _=>cond (Nat.beq υ'.size 0) none (K (.jr id (p++[.kE n])) [id] [])))=some r) (hn:fX c σ a o w M ν K r next):o.wp P a w next Q:=by
 obtain⟨e,υ,bo,het,h⟩:=FX h
 obtain⟨he_,h_⟩:=fV h
 clear h
 subst he_
 have h:=h_
 clear h_
 obtain⟨υ',y,of,hf,h⟩:=uG h
 obtain⟨hz,h⟩:=mK h
 have hv:=hc.ev x
 rw[hx]at hv
 simp only[VR]at hv
 obtain⟨e',xi,oa⟩:=hv
 rw[bo]at xi;cases xi
 obtain⟨b,off,hu,ajx⟩:=oa.step het (.kE n) trivial
 obtain⟨fs,f,Rm,hff,hfo,U5⟩:=(hE.ty t υ ht).kE hf
 obtain⟨v,dQ,hvv⟩:=uP (P:=P) ho (w:=w) Rm hff U5 (nb hz) hu
 refine ba dQ (hn _ _ _ _ _ M ν h (.refl hc.mem) ?_)
 simp only[VR]
 refine⟨e,bo,?_⟩
 rw[hvv,hfo,hf.eq.2]
 simpa [cJ]using ajx
theorem AL(hE:EnvTy P E)(hc:Core c σ a.tmps w M ν){t:TypeId}{x:Operand}{n:Nat}(ho:o.op= .fieldAddr t x n){K:jg α}{τ:Ty}(ht:E.ty t=some τ){υ:Ty}{z:υ.den}(hx:σ.ρ x= .rP υ z)
  (h:nB υ τ (yF υ z n fun υ y=>cond (Nat.beq υ.size 0) none (K (.rP υ y) [] []))=some r) (hn:fX c σ a o w M ν K r next):o.wp P a w next Q:=by
 obtain⟨he,h1⟩:=fV h
 subst he
 obtain⟨υ',y,of,hf,h⟩:=uG h1
 obtain⟨hz,h⟩:=mK h
 have hv:=hc.ev x
 rw[hx]at hv
 simp only[VR]at hv
 obtain⟨b,off,hu,hb,hM,cs,qa,hr⟩:=hv
 obtain⟨fs,f,Rm,hff,hfo,U5⟩:=(hE.ty t υ ht).kE hf
 obtain⟨v,dQ,hvv⟩:=uP (P:=P) ho (w:=w) Rm hff U5 (nb hz) hu
 refine ba dQ (hn _ _ _ _ _ M ν h (.refl hc.mem) ?_)
 simp only[VR]
 exact⟨b,off+f.offset,hvv,hb,hM,_,by rw[hfo];exact qa.sub of υ'.size,hf.rd hr⟩
theorem V.agg{τ:Ty}(ha:τ.isAgg=true){v:Value}{x:τ.den}(h:V w M τ v x): ∃cs,v= .agg cs∧Rd w M τ cs.toList x:=by
 unfold V at h;rw[ah ha]at h;exact h
theorem D1.agg{τ:Ty}{x:τ.den}{n:Nat}{υ:Ty}{y:υ.den}{o:Nat}(h:D1 τ x n υ y o):τ.isAgg=true:=by cases h<;>rfl
theorem XG(hE:EnvTy P E)(hc:Core c σ a.tmps w M ν){t:TypeId}{x:Operand}{n:Nat}(ho:o.op= .field t x n){K:jg α}{τ:Ty}(ht:E.ty t=some τ){υ:Ty}{z:υ.den}(hx:σ.ρ x= .val υ z)
  (h:nB υ τ (yF υ z n fun υ y=>K (.val υ y) [] [])=some r) (hn:fX c σ a o w M ν K r next):o.wp P a w next Q:=by
 obtain⟨he,h1⟩:=fV h
 subst he
 obtain⟨υ',y,of,hf,h⟩:=uG h1
 have hv:=hc.ev x
 rw[hx]at hv
 simp only[VR]at hv
 obtain⟨cs,hu,hr⟩:=hv.agg hf.agg
 obtain⟨fs,f,Rm,hff,hfo,U5⟩:=(hE.ty t υ ht).kE hf
 have eF:=hf.rd hr
 refine ba (KU ho Rm hff U5 hu (by rw[hfo];exact eF)) (hn _ _ _ _ _ M ν h (.refl hc.mem) ?_)
 simp only[VR]
 rw[hfo]
 exact V.cR eF
theorem KX(hE:EnvTy P E)(hc:Core c σ a.tmps w M ν){t:TypeId}{x i:Operand}(ho:o.op= .indexAddr t x i){K:jg α}{τ:Ty}(ht:E.ty t=some τ)
  (h:gC τ (σ.ρ x) (σ.ρ i) σ.H K=some r) (hn:fX c σ a o w M ν K r next):o.wp P a w next Q:=by
 unfold gC at h
 obtain⟨k,n,hi,h2⟩:=nF h
 clear h
 have h:=h2
 clear h2
 have Tw:=hc.ev i
 rw[hi]at Tw
 have Tw:=Tw.int
 have hv:=hc.ev x
 have AI:=hE.ty t τ ht
 split at h
 ·
  rename_i e
  obtain⟨e',Rm,hle⟩:=AI.slice
  split at h
  ·rename_i υ l hx
   obtain⟨e1,h⟩:=bG h
   subst e1
   obtain⟨lj,h⟩:=cF h
   obtain⟨h0,h1⟩:=vx lj
   have h1:n<(List.length l:Int):=h1
   rw[hx]at hv
   simp only[VR]at hv
   have hv:=V.slice.1 hv
   simp only[Rd,fu,ec]at hv
   obtain⟨ad,cap,hu,aoR,hr⟩:=hv
   obtain⟨b,off,rfl,hb,hM,cs,qa,ld⟩:=hr n.toNat ω
   refine ba (ln ho Rm hle hu Tw h0 h1) (hn _ _ _ _ _ M ν h (.refl hc.mem) ?_)
   simp only[VR]
   refine⟨b,_,rfl,hb,hM,cs,qa,?_⟩
   have:Rd w M e cs (List.getD l n.toNat e.zero):=by rw[kP l n.toNat e.zero ω];exact ld
   exact this
  ·rename_i id hx
   rw[hx]at hv
   simp only[VR]at hv
   obtain⟨_,hu⟩:=hv
   split at h
   ·rename_i e2 l bo
    obtain⟨he_,h_⟩:=fV h
    clear h
    subst he_
    have h:=h_
    clear h_
    obtain⟨lj,h⟩:=cF h
    obtain⟨h0,h1⟩:=vx lj
    have mX:=hc.mem.ll id _ bo
    simp only[ER]at mX
    rcases mX with⟨rfl,_⟩|⟨b,cs,te,cap,hb,hg,hM,Xd,hl,FK,hs,hr⟩
    ·simp at h1;omega
    ·rw[hb]at hu
     refine ba (ln ho Rm hle hu Tw h0 h1) (hn _ _ _ _ _ M ν h (.refl hc.mem) ?_)
     simp only[VR]
     refine⟨_,bo,?_⟩
     simp only[AR]
     exact⟨n.toNat,[],rfl,ω,trivial,b,_,_,hb,by simp[cJ]⟩
   ·rename_i e2 l bo
    obtain⟨he_,h_⟩:=fV h
    clear h
    subst he_
    have h:=h_
    clear h_
    obtain⟨lj,h⟩:=cF h
    obtain⟨h0,h1⟩:=vx lj
    have mX:=hc.mem.ll id _ bo
    simp only[ER]at mX
    obtain⟨ld,hhd⟩:=mX
    simp only[Rd,fu,ec]at ld
    obtain⟨ad,cap,hb,aoR,hr⟩:=ld
    rcases hhd with⟨rfl,_⟩|⟨b,n2,c2,uM⟩
    ·simp at h1;omega
    ·rw[hb]at uM;cases uM
     rw[hb]at hu
     refine ba (ln ho Rm hle hu Tw h0 h1) (hn _ _ _ _ _ M ν h (.refl hc.mem) ?_)
     simp only[VR]
     refine⟨_,bo,?_⟩
     simp only[AR]
     exact⟨n.toNat,[],rfl,ω,trivial,b,_,_,hb,by simp[cJ]⟩
   ·cases h
  ·cases h
 ·
  rename_i len e
  obtain⟨e',Rm,hle⟩:=AI.arr
  split at h
  ·rename_i id p hx
   obtain⟨en,υ,bo,het,h⟩:=FX h
   obtain⟨he_,h_⟩:=fV h
   clear h
   subst he_
   have h:=h_
   clear h_
   obtain⟨lj,h⟩:=cF h
   obtain⟨h0,h1⟩:=vx lj
   rw[hx]at hv
   simp only[VR]at hv
   obtain⟨en',xi,oa⟩:=hv
   rw[bo]at xi;cases xi
   obtain⟨b,off,hu,ajx⟩:=oa.step het (.idx n.toNat) ⟨⟨len,e,rfl,ω⟩,trivial⟩
   refine ba (tk ho Rm hle hu Tw h0 h1) (hn _ _ _ _ _ M ν h (.refl hc.mem) ?_)
   simp only[VR]
   refine⟨en,bo,?_⟩
   simpa [cJ,elT]using ajx
  ·rename_i υ l hx
   obtain⟨e1,h⟩:=bG h
   subst e1
   obtain⟨lj,h⟩:=cF h
   obtain⟨h0,h1⟩:=vx lj
   rw[hx]at hv
   simp only[VR]at hv
   obtain⟨b,off,hu,hb,hM,cs,qa,hr⟩:=hv
   refine ba (tk ho Rm hle hu Tw h0 h1) (hn _ _ _ _ _ M ν h (.refl hc.mem) ?_)
   simp only[VR]
   exact⟨b,_,rfl,hb,hM,_,qa.sub _ e.size,hr.idx ω⟩
  ·cases h
 ·cases h
theorem D8(hc:Core c σ a.tmps w M ν){x:Operand}(ho:o.op= .nilCheck x){K:jg α}{id:Nat}{p:List Step}(hx:σ.ρ x= .jr id p)
  (h:K (.jr id p) [] []=some r) (hn:fX c σ a o w M ν K r next):o.wp P a w next Q:=by
 have hv:=hc.ev x
 have XH:=hv
 rw[hx]at hv
 simp only[VR]at hv
 obtain⟨e,he,oa⟩:=hv
 obtain⟨ad,hu⟩:=oa.ptr
 refine ba (wz ho hu) (hn _ _ _ _ _ M ν h (.refl hc.mem) ?_)
 rw[←hu,←hx];exact XH
theorem B6(hc:Core c σ a.tmps w M ν){x:Operand}(ho:o.op= .nilCheck x){K:jg α}{τ:Ty}{z:τ.den}(hx:σ.ρ x= .rP τ z)
  (h:K (.rP τ z) [] []=some r) (hn:fX c σ a o w M ν K r next):o.wp P a w next Q:=by
 have hv:=hc.ev x
 have XH:=hv
 rw[hx]at hv
 simp only[VR]at hv
 obtain⟨b,off,hu,_⟩:=hv
 refine ba (wz ho hu) (hn _ _ _ _ _ M ν h (.refl hc.mem) ?_)
 rw[←hu,←hx];exact XH
theorem ju.get{H:Nat→Option bl}: ∀{qK:List bI} {vs:List Value},ju w M H ν qK vs→ ∀{i:Nat} {x:bI},qK[i]? =some x→ ∃v,vs[i]? =some v∧VR w M H ν x v
 |[],_,_,i,x,hx=>by simp at hx
 |y::qK,[],h,_,_,_=>by simp[ju]at h
 |y::qK,v::vs,h,0,x,hx=>by
  simp only[ju]at h
  simp at hx;subst hx
  exact⟨v,rfl,h.1⟩
 |y::qK,v::vs,h,i+1,x,hx=>by
  simp only[ju]at h
  exact ju.get h.2 (by simpa using hx)
theorem RE(hc:Core c σ a.tmps w M ν){x:Operand}{i:Nat}(ho:o.op= .extract x i){K:jg α}{vs:List bI}{v:bI}(hx:σ.ρ x= .tup vs)(hi:vs[i]? =some v)
  (h:K v [] []=some r) (hn:fX c σ a o w M ν K r next):o.wp P a w next Q:=by
 have hv:=hc.ev x
 rw[hx]at hv
 simp only[VR]at hv
 obtain⟨us,hu,hvs⟩:=hv
 obtain⟨u,hui,hvu⟩:=hvs.get hi
 exact ba (FN ho hu hui) (hn _ _ _ _ _ M ν h (.refl hc.mem) hvu)
theorem Core.evs(hc:Core c σ a.tmps w M ν): ∀xs:List Operand,ju w M σ.H ν (xs.map σ.ρ) (xs.map a.eval)
 |[]=>by simp[ju]
 |x::xs=>by simp only[bR,ju];exact⟨hc.ev x,hc.evs xs⟩
theorem xp: ∀{qK:List bI} {vs:List Value} {H:Nat→Option bl} {M:Nat→Prop} {K:List bI→List Nat→ja→Option α},Mem c H w M ν→ju w M H ν qK vs→xe H qK K=some r→
  ∃cs rd ups M',K cs rd ups=some r∧Tr c H w M ν (c9 H ups) w M' ν∧ju w M' (c9 H ups) ν cs vs
 |[],vs,H,M,K,hm,hv,h=>⟨[],[],[],M,h,.refl hm,hv⟩
 |x::xs,[],H,M,K,hm,hv,h=>by simp[ju]at hv
 |x::xs,v::vs,H,M,K,hm,hv,h=>by
  simp only[ju]at hv
  unfold xe at h
  split at h
  ·rename_i id
   split at h
   ·rename_i τ z bo
    obtain⟨M1,b,ht,hb,fj,hM,tj,qa,ld⟩:=Tr.fix hm bo
    obtain⟨cs,rd,ups,M2,hK,ht2,hv2⟩:=xp ht.mem (ju.cm ht.cm ht.goes hv.2) h
    refine⟨_,_,_,M2,hK,ht.trans ht2,?_⟩
    have h1:VR w M1 (bZ H id (some .gone)) ν (.rP τ z) v:=by
     have Nu:=hv.1
     simp only[VR]at Nu ⊢
     obtain⟨e,he,oa⟩:=Nu
     rw[bo]at he;cases he
     simp only[AR]at oa
     obtain⟨_,b',fg,Nu⟩:=oa
     rw[hb]at fg;cases fg
     exact⟨b,0,Nu,fj,hM,tj,qa,ld⟩
    simp only[ju]
    exact⟨VR.cm ht2.cm ht2.goes h1,hv2⟩
   ·cases h
  ·obtain⟨cs,rd,ups,M2,hK,ht2,hv2⟩:=xp hm hv.2 h
   refine⟨_,_,_,M2,hK,ht2,?_⟩
   simp only[ju]
   exact⟨VR.cm ht2.cm ht2.goes hv.1,hv2⟩
theorem Nv(hc:Core c σ a.tmps w M ν){f:FuncId}{first caps:Array Operand}(ho:o.op= .makeFunc (.func f) first caps){K:jg α}
  (h:cond first.isEmpty (xe σ.H (caps.toList.map σ.ρ) λcs rd ups=>K (.Nd f cs) rd ups) none=some r) (hn:fX c σ a o w M ν K r next):o.wp P a w next Q:=by
 obtain⟨hf,h⟩:=cF h
 obtain⟨cs,rd,ups,M',hK,ht,hv⟩:=xp hc.mem (hc.evs _) h
 refine ba (D4 ho (by simpa using hf)) (hn _ _ _ _ _ M' ν hK ht ?_)
 simp only[VR]
 exact⟨caps.toList.map a.eval,by congr 1;apply jt;simp,hv⟩
theorem RF(hE:EnvTy P E)(hc:Core c σ a.tmps w M ν){s d:TypeId}{x:Operand}(ho:o.op= .convert s d x){K:jg α}{τ:Ty}{k:IntKind}(hs:E.ty s=some τ)(hd:E.ty d=some (.int k))
  (h:xb (σ.ρ x) (λ_ n=>K (.val (.int k) (W k n)) [] [])=some r) (hn:fX c σ a o w M ν K r next):o.wp P a w next Q:=by
 obtain⟨k',n,hx,h⟩:=nF h
 have hv:=hc.ev x
 rw[hx]at hv
 refine ba (FO ho (hE.ty s τ hs).isSome (hE.ty d _ hd).int hv.int) (hn _ _ _ _ _ M ν h (.refl hc.mem) ?_)
 rw[DY];exact .mkInt k _
end VM
end
section
namespace VM
open Go
variable{P:Program}{E:Env}{o:Oper}{a:Act}{w:World}{M:Nat→Prop}{ν:Nat→Value}{σ:St}{c:Ctx}{α:Type}{r:α}{next:Act→World→Prop}{Q:Exit→Act→World→Prop}
theorem U6{b:BinOp}{k k':IntKind}{x y:Int}{t:TypeId}{K:bI→Option α}(h:shK b k x y K=some r):
  ∃z,K (.val (.int k) z)=some r∧(binOp b t (.int k x) (.int k' y)).run P w= .ok (.int k z) w:=by
 unfold shK at h
 split at h
 ·obtain⟨h0,h⟩:=mK h
  rw[p7]at h0
  have h0: ¬y<0:=by simpa using h0
  refine⟨_,h,?_⟩
  rw[DY,Xv]
  simp[binOp,Op.shift,h0]
 ·obtain⟨h0,h⟩:=mK h
  rw[p7]at h0
  have h0: ¬y<0:=by simpa using h0
  refine⟨_,h,?_⟩
  rw[Ry]
  simp[binOp,Op.shift,h0]
 ·cases h
theorem KY{b:BinOp}{k:IntKind}{x y:Int}{t:TypeId}{K:bI→Option α}(h:vt b k x y K=some r):
  ∃v u,K v=some r∧(binOp b t (.int k x) (.int k y)).run P w= .ok u w∧ ∀H,VR w M H ν v u:=by
 unfold vt at h
 split at h
 ·exact⟨_,_,h,by simp[binOp,Op.intArith,DY],λH=> .mkInt _ _⟩
 ·exact⟨_,_,h,by simp[binOp,Op.intArith,DY],λH=> .mkInt _ _⟩
 ·exact⟨_,_,h,by simp[binOp,Op.intArith,DY],λH=> .mkInt _ _⟩
 ·obtain⟨h0,h⟩:=mK h
  rw[jB]at h0
  have h0: ¬y=0:=by simpa using h0
  exact⟨_,_,h,by simp[binOp,Op.intDiv,DY,KJ,h0],λH=> .mkInt _ _⟩
 ·obtain⟨h0,h⟩:=mK h
  rw[jB]at h0
  have h0: ¬y=0:=by simpa using h0
  exact⟨_,_,h,by simp[binOp,Op.intDiv,Xu,h0],λH=> .mkInt _ _⟩
 ·exact⟨_,_,h,by simp[binOp,Op.intBits,vr],λH=> .mkInt _ _⟩
 ·exact⟨_,_,h,by simp[binOp,Op.intBits,vr],λH=> .mkInt _ _⟩
 ·exact⟨_,_,h,by simp[binOp,Op.intBits,vr],λH=> .mkInt _ _⟩
 ·exact⟨_,_,h,by simp[binOp,Op.intBits,vr],λH=> .mkInt _ _⟩
 ·exact⟨_,.bool (decide (x=y)),h,by simp[binOp,Op.intCmp];rfl,λH=>by rw[jB];exact .vw _⟩
 ·exact⟨_,.bool (!decide (x=y)),h,by simp[binOp,Op.intCmp];rfl,λH=>by rw[jB];exact .vw _⟩
 ·exact⟨_,_,h,by simp[binOp,Op.intCmp,p7],λH=> .vw _⟩
 ·exact⟨_,_,h,by simp[binOp,Op.intCmp,ny],λH=> .vw _⟩
 ·exact⟨_,_,h,by simp[binOp,Op.intCmp,p7],λH=> .vw _⟩
 ·exact⟨_,_,h,by simp[binOp,Op.intCmp,ny],λH=> .vw _⟩
 ·cases h
theorem U7{t:Option Ty}{op:BinOp}{τ:Ty}{x:τ.den}{υ:Ty}{y:υ.den}{K:bI→Option α}(h:FI t op τ x υ y K=some r):
  (∃(k k':IntKind) (m n:Int),bI.val τ x= .val (.int k) m∧bI.val υ y= .val (.int k') n∧(cond (abx op) (shK op k m n K) (if k=k' then vt op k m n K else none))=some r)∨
  (∃z:τ.den,bI.val υ y= .val τ z∧t=some τ∧τ.comparable=true∧((op= .eql∧K (.val .bool (p8 τ x z))=some r)∨(op= .neq∧K (.val .bool (!p8 τ x z))=some r))):=by
 unfold FI at h
 split at h
 ·exact .inl ⟨_,_,_,_,rfl,rfl,h⟩
 ·right
  split at h
  ·cases h
  ·obtain⟨e,h1⟩:=fV h
   clear h
   subst e
   obtain⟨hc,h⟩:=cF h1
   clear h1
   split at h
   ·obtain⟨e,h1⟩:=bG h
    subst e
    exact⟨_,rfl,rfl,hc,.inl ⟨rfl,h1⟩⟩
   ·obtain⟨e,h1⟩:=bG h
    subst e
    exact⟨_,rfl,rfl,hc,.inr ⟨rfl,h1⟩⟩
   ·cases h
theorem C9{t:TypeId}(hu:P.underlying t=some .bool)(x y:Bool)(w:World):(Op.equal t (.bool x) (.bool y)).run P w= .ok (x==y) w:=by
 unfold Op.equal
 obtain⟨n,hn⟩: ∃n,Op.maxDepth=n+1:=⟨9999,rfl⟩
 rw[hn]
 simp[Op.equalIn,run_underlying hu]
theorem run_eql_bool{t:TypeId}(hu:P.underlying t=some .bool)(x y:Bool):(binOp .eql t (.bool x) (.bool y)).run P w= .ok (.bool (x==y)) w:=by
 simp[binOp,C9 hu]
theorem run_neq_bool{t:TypeId}(hu:P.underlying t=some .bool)(x y:Bool):(binOp .neq t (.bool x) (.bool y)).run P w= .ok (.bool (!(x==y))) w:=by
 simp[binOp,C9 hu]
theorem aoT(x y:ByteArray):(x.toList==y.toList)=decide (x.toList=y.toList):=by
 rw[ns];simp
theorem Nw{t:TypeId}(x y:ByteArray):(binOp .eql t (.string x) (.string y)).run P w= .ok (.bool (decide (x.toList=y.toList))) w:=by
 simp[binOp,Op.stringOp,aoT]
theorem Nx{t:TypeId}(x y:ByteArray):(binOp .neq t (.string x) (.string y)).run P w= .ok (.bool (!decide (x.toList=y.toList))) w:=by
 simp[binOp,Op.stringOp,aoT]
theorem XI(hE:EnvTy P E)(hc:Core c σ a.tmps w M ν){b:BinOp}{t t':TypeId}{x y:Operand}(ho:o.op= .binOp b t x y t'){K:jg α}
  (h:Ng (σ.ρ x) (fun τ x=>Ng (σ.ρ y) fun υ y=>FI (E.ty t) b τ x υ y λv=>K v [] [])=some r) (hn:fX c σ a o w M ν K r next):o.wp P a w next Q:=by
 have hx:=hc.ev x
 have hy:=hc.ev y
 unfold Ng at h
 split at h
 ·rename_i τ x' hxe
  split at h
  ·rename_i υ y' hye
   rw[hxe]at hx;rw[hye]at hy
   rcases U7 h with⟨k,k',m,n,e1,e2,h1⟩|⟨z,e2,ht,EH,h1⟩
   ·rw[e1]at hx;rw[e2]at hy
    have hx:=hx.int
    have hy:=hy.int
    cases hs:abx b
    ·rw[hs]at h1
     replace h1:(if k=k' then vt b k m n (λv=>K v [] [])else none)=some r:=h1
     split at h1
     ·rename_i hk;subst hk
      obtain⟨v,u,hK,dQ,hVR⟩:=KY (P:=P) (w:=w) (M:=M) (ν:=ν) (t:=t) h1
      exact ba (qL ho (by rw[hx,hy];exact qc w) (by rw[hx,hy];exact dQ)) (hn _ [] [] _ _ _ _ hK (.refl hc.mem) (hVR _))
     ·cases h1
    ·rw[hs]at h1
     replace h1:shK b k m n (λv=>K v [] [])=some r:=h1
     obtain⟨z,hK,dQ⟩:=U6 (P:=P) (w:=w) (k':=k') (t:=t) h1
     exact ba (qL ho (by rw[hx,hy];exact qc w) (by rw[hx,hy];exact dQ)) (hn _ [] [] _ _ _ _ hK (.refl hc.mem) (.mkInt _ _))
   ·rw[e2]at hy
    have key:(eqGuard b t x y (a.eval x) (a.eval y)).run P w= .ok () w∧(binOp .eql t (a.eval x) (a.eval y)).run P w= .ok (.bool (p8 τ x' z)) w∧(binOp .neq t (a.eval x) (a.eval y)).run P w= .ok (.bool (!p8 τ x' z)) w:=by
     by_cases No:τ.isAgg=true
     ·simp only[VR]at hx hy
      exact hE.eq t τ ht EH No w M _ _ _ _ b x y hx hy
     ·have hl:=hE.ty t τ ht
      cases τ with
      |int k=>
       rw[hx.int,hy.int]
       refine⟨qc w,?_,?_⟩
       ·simp[binOp,Op.intCmp,p8,jB];rfl
       ·simp[binOp,Op.intCmp,p8,jB];rfl
      |bool=>rw[hx.bool,hy.bool];exact⟨B3 w,run_eql_bool hl.bool _ _,run_neq_bool hl.bool _ _⟩
      |str=>rw[hx.str,hy.str];exact⟨D5 w,by rw[Nw];simp[p8,FH],by rw[Nx];simp[p8,FH]⟩
      |slice e=>simp[Ty.comparable]at EH
      |unit=>simp[Ty.isAgg]at No
      |pair _ _=>simp[Ty.isAgg]at No
      |arr _ _=>simp[Ty.isAgg]at No
    obtain⟨hg,h2,h3⟩:=key
    rcases h1 with⟨rfl,hK⟩|⟨rfl,hK⟩
    ·exact ba (qL ho hg h2) (hn _ [] [] _ _ _ _ hK (.refl hc.mem) (.vw _))
    ·exact ba (qL ho hg h3) (hn _ [] [] _ _ _ _ hK (.refl hc.mem) (.vw _))
  ·cases h
 ·cases h
theorem abJ(hc:Core c σ a.tmps w M ν){u:UnOp}{t:TypeId}{x:Operand}(ho:o.op= .unOp u t x){K:jg α}
  (h:UT u (σ.ρ x) (λv=>K v [] [])=some r) (hn:fX c σ a o w M ν K r next):o.wp P a w next Q:=by
 have hx:=hc.ev x
 unfold UT at h
 split at h
 ·rename_i k n hxe
  rw[hxe]at hx
  refine ba (xl ho (v:= .int k (k.wrap (0-n))) ?_) (hn _ [] [] _ _ _ _ h (.refl hc.mem) (by rw[DY];exact .mkInt _ _))
  rw[hx.int];simp[Op.unary,Op.intArith]
 ·rename_i k n hxe
  rw[hxe]at hx
  refine ba (xl ho (v:= .int k (mW .xor k (if k.signed then-1 else k.max) n)) ?_) (hn _ [] [] _ _ _ _ h (.refl hc.mem) (.mkInt _ _))
  rw[hx.int,vr];simp[Op.unary,Op.intBits]
 ·rename_i b hxe
  rw[hxe]at hx
  refine ba (xl ho (v:= .bool (!b)) ?_) (hn _ [] [] _ _ _ _ h (.refl hc.mem) (.vw _))
  rw[hx.bool];simp[Op.unary]
 ·cases h
end VM
end
section
namespace VM
open Go
variable{P:Program}{E:Env}{o:Oper}{a:Act}{w:World}{M:Nat→Prop}{ν:Nat→Value}{σ:St}{c:Ctx}{α:Type}{r:α}{next:Act→World→Prop}{Q:Exit→Act→World→Prop}
theorem oz{args:Array Operand}{ts:Array TypeId}{t:TypeId}{x:Operand}{n:Nat}(ho:o.op= .call {callee:= .builtin .len,args,argTypes:=ts})(ha:args.toList=[x])(_ht:ts.toList.head?=some t)
  (hl: ∀ty,(Builtin.len_ ts ty #[a.eval x]).run P w= .ok (goInt n) w):(execOp a.eval o).run P w= .ok (.value (.int .i64 n)) w:=by
 obtain⟨cs,hr⟩:=rU (P:=P) (ρ:=a.eval) ho (w:=w)
 rw[hr]
 have:args.map a.eval= #[a.eval x]:=by apply jt;simp[ha]
 rw[this]
 simp[builtin,hl,goInt]
theorem abK{ts:Array TypeId}{t ty:TypeId}(ht:ts[0]? =some t)(hu:P.underlying t=some .string)(s:ByteArray):(Builtin.len_ ts ty #[.string s]).run P w= .ok (goInt s.size) w:=by
 simp[Builtin.len_,ht,run_underlying hu]
theorem abL{ts:Array TypeId}{t ty e:TypeId}{n:Nat}(ht:ts[0]? =some t)(hu:P.underlying t=some (.array n e))(v:Value):(Builtin.len_ ts ty #[v]).run P w= .ok (goInt n) w:=by
 simp[Builtin.len_,ht,run_underlying hu]
theorem yk{ts:Array TypeId}{t ty e:TypeId}(ht:ts[0]? =some t)(hu:P.underlying t=some (.slice e))(ad:Option Addr)(n cp:Nat):(Builtin.len_ ts ty #[.slice ad n cp]).run P w= .ok (goInt n) w:=by
 simp[Builtin.len_,ht,run_underlying hu]
theorem ER.XJ{e:Ty}{l:List e.den}{v:Value}(h:ER w M v (.own e l)): ∃ad cp,v= .slice ad l.length cp:=by
 simp only[ER]at h
 rcases h with⟨rfl,a,hv⟩|⟨b,cs,t,cap,hv,_⟩
 ·exact⟨a,0,hv⟩
 ·exact⟨_,cap,hv⟩
theorem ER.XK{e:Ty}{l:List e.den}{v:Value}(h:ER w M v (.o8 e l)): ∃ad cp,v= .slice ad l.length cp:=by
 simp only[ER]at h
 have h:=h.1
 simp only[Rd,fu,ec]at h
 obtain⟨a,cap,hv,_⟩:=h
 exact⟨a,cap,hv⟩
theorem ajy(hE:EnvTy P E)(hc:Core c σ a.tmps w M ν){args:Array Operand}{ts:Array TypeId}{x:Operand}(ho:o.op= .call {callee:= .builtin .len,args,argTypes:=ts})(ha:args.toList=[x]){K:jg α}{τ:Ty}
  (ht:(ts.toList.head?).bind E.ty=some τ) (h:Nh τ (σ.ρ x) σ.H K=some r) (hn:fX c σ a o w M ν K r next):o.wp P a w next Q:=by
 obtain⟨t,wO,ht2⟩:=uv.1 ht
 have ht3:ts[0]? =some t:=by rw[←wO,←gP,List.head?_eq_getElem?]
 have hl:=hE.ty t τ ht2
 have hv:=hc.ev x
 unfold Nh at h
 split at h
 ·rename_i e e' l hx
  obtain⟨_,hu,_⟩:=hl.slice
  rw[hx]at hv
  simp only[VR]at hv
  have hv:=V.slice.1 hv
  simp only[Rd,fu,ec]at hv
  obtain⟨ad,cap,hv,_⟩:=hv
  refine ba (oz ho ha wO (n:=List.length l) λty=>by rw[hv];exact yk ht3 hu _ _ _) (hn _ [] [] _ _ _ _ h (.refl hc.mem) (.mkInt _ _))
 ·rename_i n e n' e' l hx
  obtain⟨_,hu,_⟩:=hl.arr
  refine ba (oz ho ha wO (n:=n) λty=>abL ht3 hu _) (hn _ [] [] _ _ _ _ h (.refl hc.mem) (.mkInt _ _))
 ·rename_i s hx
  rw[hx]at hv
  refine ba (oz ho ha wO (n:=ByteArray.size s) λty=>by rw[hv.str];exact abK ht3 hl.str _) (hn _ [] [] _ _ _ _ h (.refl hc.mem) (.mkInt _ _))
 ·rename_i e hx
  obtain⟨_,hu,_⟩:=hl.slice
  rw[hx]at hv
  simp only[VR]at hv
  obtain⟨ad,hv⟩:=hv
  refine ba (oz ho ha wO (n:=0) λty=>by rw[hv];exact yk ht3 hu _ _ _) (hn _ [] [] _ _ _ _ h (.refl hc.mem) (.mkInt _ _))
 ·rename_i e id hx
  obtain⟨_,hu,_⟩:=hl.slice
  rw[hx]at hv
  simp only[VR]at hv
  split at h
  ·rename_i e' l bo
   obtain⟨ad,cap,hh⟩:=(hc.mem.ll id _ bo).XJ
   refine ba (oz ho ha wO (n:=l.length) λty=>by rw[hv.2,hh];exact yk ht3 hu _ _ _) (hn _ [id] [] _ _ _ _ h (.refl hc.mem) (.mkInt _ _))
  ·rename_i e' l bo
   obtain⟨ad,cap,hh⟩:=(hc.mem.ll id _ bo).XK
   refine ba (oz ho ha wO (n:=l.length) λty=>by rw[hv.2,hh];exact yk ht3 hu _ _ _) (hn _ [id] [] _ _ _ _ h (.refl hc.mem) (.mkInt _ _))
  ·cases h
 ·cases h
theorem Ny{H:Nat→Option bl}(up:Bool): ∀(xs:List bI) (x:bI) (v:Value) (vs:List Value) (K:bI→Option α),VR w M H ν x v→ju w M H ν xs vs→mmK up x xs K=some r→
  ∃x' v',K x'=some r∧(vs.foldlM (if up then Builtin.max2 else Builtin.min2) v).run P w= .ok v' w∧VR w M H ν x' v'
 |[],x,v,[],K,hx,_,h=>⟨x,v,h,by simp,hx⟩
 |[],_,_,_::_,_,_,hs,_=>by simp[ju]at hs
 |_::_,_,_,[],_,_,hs,_=>by simp[ju]at hs
 |y::xs,x,v,u::vs,K,hx,hs,h=>by
  simp only[ju]at hs
  obtain⟨hy,hs⟩:=hs
  unfold mmK at h
  obtain⟨k,m,e1,h1⟩:=nF h
  obtain⟨k',n,e2,h2⟩:=nF h1
  clear h h1
  split at h2
  ·rename_i hk
   subst hk
   rw[e1]at hx;rw[e2]at hy
   have hx:=hx.int
   have hy:=hy.int
   obtain⟨x',v',hK,dQ,hV⟩:=Ny up xs _ (.int k (cond up (mx m n) (mn m n))) vs K (.mkInt _ _) hs h2
   refine⟨x',v',hK,?_,hV⟩
   rw[List.foldlM_cons,Sem.run_bind]
   have:((if up then Builtin.max2 else Builtin.min2) v u).run P w= .ok (.int k (cond up (mx m n) (mn m n))) w:=by
    rw[hx,hy]
    cases up
    ·simp[Builtin.min2,Xw]
    ·simp[Builtin.max2,aic]
   rw[this]
   exact dQ
  ·cases h2
theorem aij(hc:Core c σ a.tmps w M ν)(up:Bool){args:Array Operand}{ts:Array TypeId}{x:Operand}{xs:List Operand}(ho:o.op= .call {callee:= .builtin (if up then .max else .min),args,argTypes:=ts})(ha:args.toList=x::xs){K:jg α}
  (h:mmK up (σ.ρ x) (xs.map σ.ρ) (λv=>K v [] [])=some r) (hn:fX c σ a o w M ν K r next):o.wp P a w next Q:=by
 obtain⟨x',v',hK,dQ,hV⟩:=Ny (P:=P) up (xs.map σ.ρ) (σ.ρ x) (a.eval x) (xs.map a.eval) _ (hc.ev x) (hc.evs xs) h
 refine ba ?_ (hn _ [] [] _ _ _ _ hK (.refl hc.mem) hV)
 obtain⟨cs,hr⟩:=rU (P:=P) (ρ:=a.eval) ho (w:=w)
 rw[hr]
 have hm:(args.map a.eval).toList=a.eval x::xs.map a.eval:=by simp[ha]
 cases up
 ·simp only[jd,fc,builtin,Builtin.min_,hm,Sem.run_bind]at dQ ⊢
  rw[dQ];simp
 ·simp only[gB,builtin,Builtin.max_,hm,Sem.run_bind]at dQ ⊢
  rw[dQ];simp
theorem Ir{ρ:Operand→Value}{t:TypeId}{x i:Operand}(ho:o.op= .index t x i){k:IntKind}{n:Int}{s:ByteArray}
  (hu:P.underlying t=some .string) (hx:ρ x= .string s) (hi:ρ i= .int k n) (h0:0≤n) (h1:n<(s.size:Int)):
  (execOp ρ o).run P w= .ok (.value (.int .u8 ((s.data.getD n.toNat 0).toNat:Int))) w:=by
 have fj:n.toNat<s.size:=ω
 have hs:s[n.toNat]? =some (s[n.toNat]'fj):=by simp[fj]
 have he:s[n.toNat]'fj=s.data.getD n.toNat 0:=by
  have xq:n.toNat<s.data.size:=fj
  rw[Array.getD,dif_pos xq];rfl
 simp[execOp,ho,hx,hi,Instr.index,asIntOf,run_underlying hu,h0,hs,he]
theorem XL(hE:EnvTy P E)(hc:Core c σ a.tmps w M ν){t:TypeId}{x i:Operand}(ho:o.op= .index t x i){K:jg α}{τ:Ty}(ht:E.ty t=some τ)
  (h:xf τ (σ.ρ x) (σ.ρ i) (λv=>K v [] [])=some r) (hn:fX c σ a o w M ν K r next):o.wp P a w next Q:=by
 unfold xf at h
 obtain⟨k,n,hi,h2⟩:=nF h
 clear h
 have h:=h2
 clear h2
 have Tw:=hc.ev i
 rw[hi]at Tw
 have Tw:=Tw.int
 have hv:=hc.ev x
 have AI:=hE.ty t τ ht
 split at h
 ·rename_i len e υ l hx
  obtain⟨e',Rm,hle⟩:=AI.arr
  obtain⟨e1,h⟩:=bG h
  subst e1
  obtain⟨lj,h⟩:=cF h
  obtain⟨h0,h1⟩:=vx lj
  rw[hx]at hv
  simp only[VR]at hv
  obtain⟨cs,hu,hr⟩:=hv.agg rfl
  have eF:=hr.idx (i:=n.toNat) ω
  refine ba (Io ho Rm hle hu Tw h0 h1 eF) (hn _ [] [] _ _ _ _ h (.refl hc.mem) ?_)
  simp only[VR]
  exact V.cR eF
 ·rename_i s hx
  obtain⟨lj,h⟩:=cF h
  obtain⟨h0,h1⟩:=vx lj
  rw[hx]at hv
  refine ba (Ir ho AI.str hv.str Tw h0 h1) (hn _ [] [] _ _ _ _ h (.refl hc.mem) (.mkInt _ _))
 ·cases h
theorem pa(τ:Ty):τ.du.length=τ.size:=(Rd.zero default (λ_=>False) τ).length
theorem D9{z:Array Value}{n i s:Nat}(hz:z.size=s)(hi:i*s+s≤n):((madeCells z n).toList.drop (i*s)).take s=z.toList:=by
 apply Ah
 intro j
 rw[mg]
 split
 ·rename_i hj
  rw[mh,gP,gP]
  simp only[madeCells,Array.getElem?_map]
  rw[Array.getElem?_range,ah ω]
  simp only[Option.map_some]
  have:(i*s+j)%z.size=j:=by rw[hz,Aq,Nat.mul_add_mod,Nat.mod_eq_of_lt hj]
  rw[this,MW ω,getElem!_pos z j ω]
 ·rename_i hj
  rw[gP,M7 ω]
theorem rV.made(w:World)(M:Nat→Prop)(e:Ty){n l:Nat}(h:l*e.size≤n):rV w M e (madeCells (cR e e.du).cells n).toList (List.replicate l e.zero):=by
 intro i hi
 rw[cQ]at hi
 have:=eG (s:=e.size) hi
 rw[D9 (by rw[←bL,gS,pa]) ω,gS,M8]
 exact Rd.zero w M e
theorem B7{ρ:Operand→Value}{t:TypeId}{x y:Operand}(ho:o.op= .makeSlice t x y){v:Value}{w':World}(h:(Instr.makeSlice t (ρ x) (ρ y)).run P w= .ok v w'):(execOp ρ o).run P w= .ok (.value v) w':=by
 simp[execOp,ho,h]
theorem KZ(hE:EnvTy P E)(hc:Core c σ a.tmps w M ν){t:TypeId}{x y:Operand}(ho:o.op= .makeSlice t x y){K:jg α}{e:Ty}(ht:E.ty t=some (.slice e)){id:Nat}
  (h:xb (σ.ρ x) (λ_ l=>xb (σ.ρ y) λ_ c=>cond (jA l c)
   (rQ σ.H id (.own e []) (K (.ref id) [id] [(id,some (.own e (List.replicate l.toNat e.zero)))])) none)=some r) (hn:fX c σ a o w M ν K r next):o.wp P a w next Q:=by
 obtain⟨k,l,hx,h1⟩:=nF h
 obtain⟨k',n,hy,h2⟩:=nF h1
 clear h h1
 obtain⟨hk,h⟩:=cF h2
 obtain⟨bo,h⟩:=lK h
 rw[I3]at hk
 obtain⟨h0,h1,h3⟩:=bA hk
 simp only[zP]at h3
 obtain⟨e',hu,hle⟩:=(hE.ty t _ ht).slice
 obtain⟨i,hi,hs,hz,hb⟩:=hle.base
 have K0:=hc.ev x
 have D7:=hc.ev y
 rw[hx]at K0;rw[hy]at D7
 have ajz:(i.bytes:Int)*n≤281474976710656:=by
  have h4:(i.bytes:Int)≤2048:=ω
  have:(i.bytes:Int)*n≤2048*n:=qH h4 ω
  omega
 have dQ:=run_make (P:=P) w t e' i _ hu hi hz k k' l n h0 h1 ajz ω
 have hlen:(List.replicate l.toNat e.zero).length=l.toNat:=cQ
 have iw:=Tr.row hc.mem bo e' (e:=e) (cs:=madeCells (cR e e.du).cells (n.toNat*i.size)) (l:=List.replicate l.toNat e.zero) (cap:=n.toNat) (by rw[hlen];omega) (by simp[maxLen];omega)
  (by rw[size_madeCells,hs]) (rV.made w M e (w7 ω ω))
 refine ba (B7 ho (by rw[K0.int,D7.int];exact dQ)) (hn _ _ _ _ _ _ _ h iw ?_)
 simp only[VR]
 exact⟨by show bZ σ.H id _ id≠none;rw[ay];simp,by simp[dr]⟩
end VM
end
