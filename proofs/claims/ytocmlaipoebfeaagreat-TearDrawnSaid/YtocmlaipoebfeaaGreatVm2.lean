/- A part of the proof of TearDrawn of layer 29: a machine that reads a function of the program as an equation between values. -/
import Derived.Test.YtocmlaipoebfeaaGreatVm1
set_option linter.all false
section
namespace VM
open Go
variable{P:Program}{E:Env}{o:Oper}{a:Act}{w:World}{M:Nat→Prop}{ν:Nat→Value}{σ:St}{c:Ctx}{α:Type}{r:α}{next:Act→World→Prop}{Q:Exit→Act→World→Prop}
theorem aJ{v:Value}{w':World}(h:(execOp a.eval o).run P w= .ok (.value v) w')(hn:next (a.put o.dst v) w'):o.wp P a w next Q:=by
 unfold Oper.wp Oper.upon;rw[h];exact hn
theorem mo{w':World}(h:(execOp a.eval o).run P w= .ok .skip w')(hn:next (a.put o.dst undef) w'):o.wp P a w next Q:=by
 unfold Oper.wp Oper.upon;rw[h];exact hn
def dG(c:Ctx)(σ:St)(a:Act)(o:Oper)(w:World)(M:Nat→Prop)(ν:Nat→Value)(K:fk α)(r:α)(next:Act→World→Prop):Prop:=
 ∀v rd ups v' w' M' ν',K v rd ups=some r→Tr c σ.H w M ν (bP σ.H ups) w' M' ν'→VR w' M' (bP σ.H ups) ν' v v'→next (a.put o.dst v') w'
theorem Core.ev(h:Core c σ a.tmps w M ν)(x:Operand):VR w M σ.H ν (σ.ρ x) (a.eval x):=h.op a.defers x
theorem ji{x:aV}{k:IntKind→Int→Option α}(h:p6 x k=some r): ∃(i:IntKind) (n:Int),x= .val (.int i) n∧k i n=some r:=by
 unfold p6 at h
 split at h
 ·exact⟨_,_,rfl,h⟩
 ·cases h
theorem VR.int{H:Nat→Option aN}{k:IntKind}{n:Int}{v:Value}(h:VR w M H ν (.val (.int k) n) v):v= .int k n:=by
 simp only[VR,V,Ty.isAgg,Bool.false_eq_true,if_false,Rd,List.cons.injEq,and_true]at h;exact h
theorem VR.bool{H:Nat→Option aN}{b:Bool}{v:Value}(h:VR w M H ν (.val .bool b) v):v= .bool b:=by
 simp only[VR,V,Ty.isAgg,Bool.false_eq_true,if_false,Rd,List.cons.injEq,and_true]at h;exact h
theorem VR.str{H:Nat→Option aN}{b:ByteArray}{v:Value}(h:VR w M H ν (.val .str b) v):v= .string b:=by
 simp only[VR,V,Ty.isAgg,Bool.false_eq_true,if_false,Rd,List.cons.injEq,and_true]at h;exact h
theorem VR.mkInt{H:Nat→Option aN}(k:IntKind)(n:Int):VR w M H ν (.val (.int k) n) (.int k n):=by simp[VR,V,Ty.isAgg,Rd]
theorem VR.oN{H:Nat→Option aN}(b:Bool):VR w M H ν (.val .bool b) (.bool b):=by simp[VR,V,Ty.isAgg,Rd]
theorem VR.mkStr{H:Nat→Option aN}(b:ByteArray):VR w M H ν (.val .str b) (.string b):=by simp[VR,V,Ty.isAgg,Rd]
theorem Jp(hc:Core c σ a.tmps w M ν){x:Operand}(ho:o.op= .move x∨o.op= .assign x){K:fk α}(h:K (σ.ρ x) [] []=some r)(hn:dG c σ a o w M ν K r next):o.wp P a w next Q:=by
 have hr:(execOp a.eval o).run P w= .ok (.value (a.eval x)) w:=by
  rcases ho with ho|ho
  ·simp[execOp,ho]
  ·simp[execOp,ho]
 exact aJ hr (hn _ _ _ _ _ _ _ h (.refl hc.mem) (hc.ev x))
theorem Qd(hc:Core c σ a.tmps w M ν){x y z:Operand}(ho:o.op= .pick x y z){K:fk α}{t:Bool}(hx:σ.ρ x= .val .bool t)(h:cond t (K (σ.ρ y) [] []) (K (σ.ρ z) [] [])=some r)
  (hn:dG c σ a o w M ν K r next):o.wp P a w next Q:=by
 have hv:=hc.ev x
 rw[hx]at hv
 refine aJ (D3 ho hv.bool) ?_
 cases t
 ·exact hn _ _ _ _ _ _ _ h (.refl hc.mem) (hc.ev z)
 ·exact hn _ _ _ _ _ _ _ h (.refl hc.mem) (hc.ev y)
theorem g9{H:Nat→Option aN}{id:Nat}{e:aN}{K:Option α}(h:mf H id e K=some r):H id=none∧K=some r:=by
 unfold mf at h
 split at h
 ·rename_i h';exact⟨h',h⟩
 ·cases h
theorem VR.Wu{H:Nat→Option aN}{id:Nat}{τ:Ty}{x:τ.den}{b:Nat}(aQ:H id=some (.obj τ x))(hν:ν id= .pointer (some ⟨b,0,none⟩)):VR w M H ν (.fA id []) (.pointer (some ⟨b,0,none⟩)):=by
 simp only[VR]
 exact⟨_,aQ,trivial,b,hν,rfl⟩
theorem VR.Mv{H:Nat→Option aN}{id:Nat}{τ:Ty}{x:τ.den}{q:List Step}{j b:Nat}(aQ:H id=some (.dK τ x q j))(hν:ν id= .pointer (some ⟨b,0,none⟩)):VR w M H ν (.fA id []) (.pointer (some ⟨b,0,none⟩)):=by
 simp only[VR]
 exact⟨_,aQ,trivial,b,hν,rfl⟩
theorem ej(τ:Ty):(bE τ τ.bZ).cells.toList=τ.bZ:=Ac (Rd.zero default (fun _=>False) τ)
theorem D4: ∀{τ:Ty} {n:Nat} {a:Ty},B4 τ n=some a→ ∃l m,τ.bZ=l++(a.bZ++m)∧l.length=ni τ n:=by
 intro τ
 induction τ with
 |pair a b _ Mu=>
  intro n c h
  cases n with
  |zero=>cases h;exact⟨[],b.bZ,rfl,rfl⟩
  |succ n=>
   obtain⟨l,m,h1,h2⟩:=Mu (n:=n) (a:=c) h
   refine⟨a.bZ++l,m,by simp only[Ty.bZ];rw[h1,List.append_assoc],?_⟩
   rw[List.length_append,h2,(Rd.zero default (fun _=>False) a).length];rfl
 |_=>intro n c h;simp[B4]at h
theorem tt: ∀{p:List Step} {τ υ:Ty},ed p τ υ=true→ ∃l m,τ.bZ=l++(υ.bZ++m)∧l.length=bA p τ
 |[],τ,υ,h=>by
  have h:=of_decide_eq_true h
  subst h
  exact⟨[],[],by simp,rfl⟩
 | .gp n::p,τ,υ,h=>by
  unfold ed at h
  split at h
  ·rename_i a ha
   obtain⟨l,m,h1,h2⟩:=D4 ha
   obtain⟨l',m',h3,h4⟩:=tt h
   obtain⟨_,_,hf⟩:=oc ha τ.zero
   have:=hf.eq.1
   subst this
   refine⟨l++l',m'++m,by rw[h1,h3];simp,?_⟩
   rw[List.length_append,h2,h4];rfl
  ·cases h
 | .idx _::_,_,_,h=>by simp[ed]at h
theorem AY{p:List Step}{τ e:Ty}(h:ed p τ (.slice e)=true):τ.bZ[bA p τ]? =some (.slice none 0 0):=by
 obtain⟨l,m,h1,h2⟩:=tt h
 rw[h1,List.getElem?_append_right (by omega),h2,Nat.sub_self];rfl
theorem bx{b:Bool}{K:Option α}(h:cond b K none=some r):b=true∧K=some r:=by
 cases b
 ·cases h
 ·exact⟨rfl,h⟩
theorem Jq{τ:Ty}{q:List Step}{e:Ty}(h:lkT E τ=some (q,e)):ed q τ (.slice e)=true:=by
 unfold lkT at h
 split at h
 ·rename_i υ q' e' _ _
  cases hd:decide (υ=τ)<;>rw[hd]at h
  ·cases h
  ·simp only[cond_true]at h
   cases hp:ed q' τ (.slice e')<;>rw[hp]at h
   ·cases h
   ·cases h;exact hp
 ·cases h
theorem oj{τ:Ty}{id:Nat}{q:List Step}{e:Ty}(h:B6 E τ id=some (q,e)):ed q τ (.slice e)=true:=by
 unfold B6 at h
 split at h
 ·exact Jq (bx h).2
 ·cases h
theorem yn{H:Nat→Option aN}{id:Nat}{τ:Ty}{x:τ.den}{q:List Step}{e:Ty}{K:fk α}(h:wX H id τ x q e K=some r):H id=none∧H (id+1)=none∧K (.fA id []) [id,id+1] [(id,some (.dK τ x q (id+1))),(id+1,some (.own e []))]=some r:=by
 unfold wX at h
 obtain⟨h1,h⟩:=g9 h
 obtain⟨h2,h⟩:=g9 h
 exact⟨h1,h2,h⟩
theorem Kz{H:Nat→Option aN}{i j:Nat}{u v:Option aN}(h:i≠j):bh (bh H i u) j v=bh (bh H j v) i u:=by
 funext k
 by_cases hi:k=i
 ·subst hi;rw[al _ _ h,ak,ak]
 ·by_cases hj:k=j
  ·subst hj;rw[ak,al _ _ hi,ak]
  ·rw[al _ _ hj,al _ _ hi,al _ _ hi,al _ _ hj]
theorem sy{H:Nat→Option aN}{i:Nat}{u v:Option aN}:bh (bh H i u) i v=bh H i v:=by
 funext k
 by_cases hi:k=i
 ·subst hi;rw[ak,ak]
 ·rw[al _ _ hi,al _ _ hi,al _ _ hi]
theorem Tr.Mw{H:Nat→Option aN}(h:Mem c H w M ν){id k:Nat}(hk:H k=none){τ:Ty}{x:τ.den}(aQ:H id=some (.obj τ x)){b:Nat}{cs:Array Value}{t:TypeId}(hb:ν id= .pointer (some ⟨b,0,none⟩))(hg:w.heap[b]? =some (.cells cs t (0,0)))
  {q:List Step} {e:Ty} (hq:ed q τ (.slice e)=true) {ad:Option Addr} (hz:cs.toList[bA q τ]? =some (.slice ad 0 0)):
  Tr c H w M ν (bP H [(id,some (.dK τ x q k)),(k,some (.own e []))]) w M (cg ν k (.slice ad 0 0)):=by
 have g7:k≠id:=fun e=>by rw[e,aQ]at hk;cases hk
 have h2:=Tr.nothing h hk e ad
 have hd2:bh H k (some (.own e [])) id=some (.obj τ x):=by rw[al _ _ (Ne.symm g7)];exact aQ
 have hν:cg ν k (.slice ad 0 0) id= .pointer (some ⟨b,0,none⟩):=by unfold cg;rw[if_neg (Ne.symm g7)];exact hb
 have hν1:cg ν k (.slice ad 0 0) k= .slice ad 0 0:=by simp[cg]
 have he:=h2.mem.iJ id _ hd2
 simp only[ER]at he
 obtain⟨b',cs',t',dq,hg',hM,gO⟩:=he
 rw[hν]at dq;cases dq
 rw[hg]at hg';cases hg'
 have h3:=Tr.acO h2.mem hd2 trivial (e':= .dK τ x q k) trivial rfl (fun _ _=>by simp) (by
   rw[hν];simp only[ER]
   exact⟨_,cs,t,cs.toList,.slice ad 0 0,rfl,hg,hM,gO,(DZ hz).symm,rfl,e,hq⟩)
  (fun τ' x' p' j' hl=>by
   cases hl
   refine⟨by rw[ak];simp,_,hν,?_⟩
   rw[hν1,cell_of hg,←Array.getElem?_toList];exact hz)
 rw[Kz (i:=k) (j:=id) g7]at h3
 exact h2.trans h3
theorem Tr.wX{H:Nat→Option aN}(h:Mem c H w M ν){id:Nat}(aQ:H id=none)(kX:H (id+1)=none)(t:TypeId){τ:Ty}{cs:Array Value}{x:τ.den}(hr:Rd w M τ cs.toList x){q:List Step}{e:Ty}(hq:ed q τ (.slice e)=true){ad:Option Addr}
  (hz:cs.toList[bA q τ]? =some (.slice ad 0 0)):
  ∃M' ν',Tr c H w M ν (bP H [(id,some (.dK τ x q (id+1))),(id+1,some (.own e []))]) (w.alloc (.cells cs t)) M' ν'∧ν' id= .pointer (some ⟨w.heap.size,0,none⟩):=by
 have h1:=Tr.var h aQ t hr
 have h2:=Tr.Mw h1.mem (id:=id) (k:=id+1) (by rw[al _ _ (by omega)];exact kX) (ak _ _ _) (by simp[cg]) (yj w _) hq hz
 have e1:bP (bh H id (some (.obj τ x))) [(id,some (.dK τ x q (id+1))),(id+1,some (.own e []))]=bP H [(id,some (.dK τ x q (id+1))),(id+1,some (.own e []))]:=by
  show bh (bh (bh H id _) id _) (id+1) _=bh (bh H id _) (id+1) _
  rw[sy]
 rw[e1]at h2
 exact⟨_,_,h1.trans h2,by simp[cg]⟩
theorem My(hE:EnvTy P E)(hc:Core c σ a.tmps w M ν){t:TypeId}(ho:o.op= .alloc t){K:fk α}{τ:Ty}(ht:E.ty t=some τ){id:Nat}
  (h:(match B6 E τ id with
   |some (q,e)=>wX σ.H id τ τ.zero q e K
   |none=>mf σ.H id (.obj τ τ.zero) (K (.fA id []) [id] [(id,some (.obj τ τ.zero))]))=some r) (hn:dG c σ a o w M ν K r next):o.wp P a w next Q:=by
 obtain⟨i,hi,hs,hz,_⟩:=(hE.ty t τ ht).base
 have hr:Rd w M τ (bE τ τ.bZ).cells.toList τ.zero:=by rw[ej];exact Rd.zero w M τ
 split at h
 ·rename_i q e og
  obtain⟨aQ,kX,h⟩:=yn h
  obtain⟨M',ν',eL,hν⟩:=Tr.wX hc.mem aQ kX t hr (oj og) (by rw[ej];exact AY (oj og))
  refine aJ (tp ho hi hz w) (hn _ _ _ _ _ M' ν' h eL ?_)
  exact VR.Mv (by show bh _ (id+1) _ id=_;rw[al _ _ (by omega),ak]) hν
 ·obtain⟨aQ,h⟩:=g9 h
  refine aJ (tp ho hi hz w) (hn _ _ _ _ _ _ _ h (Tr.var hc.mem aQ t hr) (VR.Wu (ak _ _ _) (by simp[cg])))
theorem Jr(hE:EnvTy P E)(hc:Core c σ a.tmps w M ν){t:TypeId}{x:Operand}(ho:o.op= .box t x){K:fk α}{τ:Ty}{id:Nat}
  (h:ix true (σ.ρ x) σ.H τ (fun y rd ups=>mf σ.H id (.obj τ y) (K (.fA id []) (id::rd) (ups++[(id,some (.obj τ y))])))=some r) (hn:dG c σ a o w M ν K r next):o.wp P a w next Q:=by
 obtain⟨y,rd,ups,M',h,eL,hV,hz,_⟩:=jS (.refl _) hc.mem (hc.ev x) h
 obtain⟨aQ,h⟩:=g9 h
 have XO:bP σ.H ups id=none:=hz.none aQ
 have qg:=eL.trans (Tr.var eL.mem XO t hV.cells)
 refine aJ (yk ho w) (hn _ _ _ _ _ (fun b=>M' b∨b=w.heap.size) (cg ν id (.pointer (some ⟨w.heap.size,0,none⟩))) h ?_ ?_)
 ·rw[dM];exact qg
 ·rw[dM];exact VR.Wu (ak _ _ _) (by simp[cg])
theorem XP(hE:EnvTy P E)(hc:Core c σ a.tmps w M ν){t:TypeId}{x:Operand}(ho:o.op= .box t x){K:fk α}{τ:Ty}{id:Nat}
  (h:(match B6 E τ id,σ.ρ x with
   |some ([.gp m],e),.B5 υ y n=>cond (Nat.beq m n) (bW υ τ y fun y=>wX σ.H id τ y [.gp m] e K) (ix true (σ.ρ x) σ.H τ (fun y rd ups=>mf σ.H id (.obj τ y) (K (.fA id []) (id::rd) (ups++[(id,some (.obj τ y))]))))
   |_,_=>ix true (σ.ρ x) σ.H τ (fun y rd ups=>mf σ.H id (.obj τ y) (K (.fA id []) (id::rd) (ups++[(id,some (.obj τ y))]))))=some r) (hn:dG c σ a o w M ν K r next):o.wp P a w next Q:=by
 split at h
 ·rename_i m e υ y n og hx
  cases hb:Nat.beq m n
  ·rw[hb]at h
   exact Jr hE hc ho h hn
  ·rw[hb]at h
   have yp:=Nat.eq_of_beq_eq_true hb
   subst yp
   simp only[cond_true]at h
   obtain⟨e1,h⟩:=aX h
   subst e1
   obtain⟨aQ,kX,h⟩:=yn h
   have hv:=hc.ev x
   rw[hx]at hv
   simp only[VR]at hv
   obtain⟨hV,cs,ad,hva,hz⟩:=hv
   have Ce:(a.eval x).cells.toList=cs.toList:=by rw[hva];rfl
   obtain⟨M',ν',eL,hν⟩:=Tr.wX hc.mem aQ kX t hV.cells (oj og) (ad:=ad) (by rw[Ce];simpa [bA]using hz)
   refine aJ (yk ho w) (hn _ _ _ _ _ M' ν' h eL ?_)
   exact VR.Mv (by show bh _ (id+1) _ id=_;rw[al _ _ (by omega),ak]) hν
 ·exact Jr hE hc ho h hn
theorem oO{i:Int}{n:Nat}(h:aI i n=true):0≤i∧i<(n:Int):=by rw[Mp]at h;simpa using h
theorem iK{b:Bool}{K:Option α}(h:cond b none K=some r):b=false∧K=some r:=by
 cases b
 ·exact⟨rfl,h⟩
 ·cases h
theorem vW(hm:Mem c σ.H w M ν){x:aV}{u:Value}(hv:VR w M σ.H ν x u){K:(υ:Ty)→υ.den→List Nat→Option α}(h:gN x σ.H K=some r):
  ∃υ y rd,K υ y rd=some r∧ ∃b off cs,u= .pointer (some ⟨b,off,none⟩)∧At w b off cs∧Rd w M υ cs y:=by
 unfold gN at h
 split at h
 ·simp only[VR]at hv
  obtain⟨b,off,rfl,_,_,cs,ha,hr⟩:=hv
  exact⟨_,_,_,h,b,off,cs,rfl,ha,hr⟩
 ·rename_i id p
  simp only[VR]at hv
  obtain⟨e,he,jE⟩:=hv
  have iW:=hm.iJ id e he
  rw[he]at h
  cases e with
  |obj τ x=>
   obtain⟨υ,y,o',hp,hK⟩:=fX h
   simp only[AR]at jE
   obtain⟨hi,b,hb,rfl⟩:=jE
   simp only[ER]at iW
   obtain⟨b',cs,t,dq,hg,_,hr⟩:=iW
   rw[hb]at dq;cases dq
   have:=hp.eq.2
   subst this
   exact⟨υ,y,_,hK,b,_,_,rfl,At.of_block hg _ _,hp.rd hi hr⟩
  |own e l=>
   simp only[AR]at jE
   obtain⟨i,q,rfl,Ai,hi,b,n,cp,hb,rfl⟩:=jE
   obtain⟨υ,y,o',hp,hK⟩:=fX h
   simp only[ER]at iW
   rcases iW with⟨rfl,_⟩|⟨b',cs,t,cap,dq,hg,_,Md,hl,AW,hs,hr⟩
   ·simp at Ai
   ·rw[hb]at dq;cases dq
    have:=hp.eq.2
    subst this
    have h1:=hr i Ai
    rw[←gv l i e.zero Ai]at h1
    have h2:=hp.rd hi h1
    have h3:=hp.bound hi
    rw[List.drop_take,List.drop_drop,List.take_take,Nat.min_eq_left (by omega)]at h2
    exact⟨υ,y,_,hK,b,_,_,rfl,At.of_block hg _ _,h2⟩
  |kg e l=>
   simp only[AR]at jE
   obtain⟨i,q,rfl,Ai,hi,b,n,cp,hb,rfl⟩:=jE
   obtain⟨υ,y,o',hp,hK⟩:=fX h
   simp only[ER]at iW
   have gO:=iW.1
   simp only[Rd,List.cons.injEq,and_true]at gO
   obtain⟨a0,cap,ha0,_,hr⟩:=gO
   obtain⟨b',off,rfl,_,_,cs,ly,Wv⟩:=hr i Ai
   rw[hb]at ha0;cases ha0
   have:=hp.eq.2
   subst this
   rw[Nat.zero_add]at ly
   have acR:Rd w M e cs (List.getD l i e.zero):=by rw[gv l i e.zero Ai];exact Wv
   have h2:=hp.rd hi acR
   have h3:=hp.bound hi
   have Qc:=acR.length
   refine⟨υ,y,_,hK,b,_,_,rfl,?_,h2⟩
   intro j v hj
   rw[List.getElem?_take]at hj
   split at hj
   ·rw[List.getElem?_drop]at hj
    have:=ly _ v hj
    rwa [←Nat.add_assoc]at this
   ·cases hj
  |dK _ _ _ _=>cases h
  |gone=>cases h
 ·cases h
theorem Mem.linked{H:Nat→Option aN}(hm:Mem c H w M ν){id:Nat}{τ:Ty}{x:τ.den}{q:List Step}{j:Nat}(aQ:H id=some (.dK τ x q j)):
  ∃b cs t nA e,ν id= .pointer (some ⟨b,0,none⟩)∧w.heap[b]? =some (.cells cs t (0,0))∧M b∧Rd w M τ nA x∧cs.toList=df nA (bA q τ) [ν j]∧(ν j).oneCell'=true∧ed q τ (.slice e)=true∧bA q τ<nA.length∧H j≠none:=by
 have iW:=hm.iJ id _ aQ
 simp only[ER]at iW
 obtain⟨b,cs,t,nA,u,hb,hg,hM,hr,Ce,h1,e,hq⟩:=iW
 obtain⟨hj,b',dq,Js⟩:=hm.dK id _ _ _ _ aQ
 rw[hb]at dq;cases dq
 obtain⟨y,o,hp⟩:=od hq x
 have dz:bA q τ<nA.length:=by
  have:=hp.bound (gw hq).1
  have h2:=hp.eq.2
  have h3:=hr.length
  have:(Ty.slice e).size=1:=rfl
  omega
 have hu:u=ν j:=by
  rw[cell_of hg,←Array.getElem?_toList,Ce,xH dz]at Js
  exact Option.some.inj Js
 subst hu
 exact⟨b,cs,t,nA,e,hb,hg,hM,hr,Ce,h1,hq,dz,hj⟩
theorem sA{H:Nat→Option aN}(hm:Mem c H w M ν){id:Nat}{τ:Ty}{x:τ.den}{q:List Step}{j:Nat}(aQ:H id=some (.dK τ x q j)){k:τ.den→fj→Option α}(h:wW j q τ x H k=some r):
  ∃z ups M',k z ups=some r∧Tr c H w M ν (bP H ups) w M' ν∧Fz H (bP H ups)∧((∃e l,H j=some (.kg e l)∧ups=[])∨ ∃e l,H j=some (.own e l)∧ups=[(j,some (.kg e l))])∧ ∃b cs t,ν id= .pointer (some ⟨b,0,none⟩)∧w.heap[b]? =some (.cells cs t (0,0))∧M' b∧Rd w M' τ cs.toList z:=by
 obtain⟨b,cs,t,nA,e0,hb,hg,hM,hr,Ce,h1,hq,dz,hj⟩:=hm.linked aQ
 have Mz:=(gw hq).1
 unfold wW at h
 split at h
 ·rename_i e l z8
  obtain⟨z,hz,Aj,z7,rR⟩:=kz h
  obtain⟨M',eL,hV,hM'⟩:=Tr.freeze hm z8
  refine⟨z,_,M',hz,eL,fun i=> ?_,.inr ⟨e,l,z8,rfl⟩,b,cs,t,hb,hg,?_,?_⟩
  ·by_cases hi:i=j
   ·subst hi;exact .inr ⟨e,l,z8,ak _ _ _⟩
   ·exact .inl (al _ _ hi)
  ·refine(hM' b).2 ⟨hM,fun hjb=> ?_⟩
   have g7:j≠id:=fun e=>by rw[e,aQ]at z8;cases z8
   exact hm.uS j id _ _ b g7 z8 trivial aQ trivial hjb (by rw[hb];rfl)
  ·rw[Ce]
   exact rR w M' nA [ν j] Mz (hr.bB eL.bB) (V.slice.1 hV)
 ·rename_i e l z8
  obtain⟨z,hz,Aj,z7,rR⟩:=kz h
  have iW:=hm.iJ j _ z8
  simp only[ER]at iW
  refine⟨z,_,M,hz,.refl hm,.refl H,.inl ⟨e,l,z8,rfl⟩,b,cs,t,hb,hg,hM,?_⟩
  rw[Ce]
  exact rR w M nA [ν j] Mz hr iW.1
 ·cases h
theorem ab0{τ υ:Ty}{t:TypeId}(hE:EnvTy P E)(ht:E.ty t=some τ)(h:ed ([]:List Step) υ τ=true):υ=τ:=of_decide_eq_true h
theorem Rd.XQ{e:Ty}{v:Value}{cs:List Value}{l:List e.den}(h:Rd w M (.slice e) cs l): ∃a n cap,cs=[.slice a n cap]:=by
 simp only[Rd]at h
 obtain⟨a,cap,rfl,_⟩:=h
 exact⟨a,_,cap,rfl⟩
theorem Ak{ρ:Operand→Value}{t:TypeId}{x:Operand}(ho:o.op= .load t x){τ:Ty}(h:gu P τ t)(ha:τ.isAgg=false){b off:Nat}{v:Value}(hx:ρ x= .pointer (some ⟨b,off,none⟩))(hc:w.cell? ⟨b,off,none⟩=some v):
  (execOp ρ o).run P w= .ok (.value v) w:=by
 have:(loadVar t ⟨b,off,none⟩).run P w= .ok v w:=by
  simp[loadVar,oh h,ha,load,Sem.run,hc]
 simp[execOp,ho,hx,Instr.loadAt,Instr.sureAddr,this]
theorem D5(hE:EnvTy P E)(hc:Core c σ a.tmps w M ν){t:TypeId}{x:Operand}(ho:o.op= .load t x){K:fk α}{τ:Ty}(ht:E.ty t=some τ)
  (h:gN (σ.ρ x) σ.H (fun υ y rd=>bW υ τ y fun z=>K (.val τ z) rd [])=some r) (hn:dG c σ a o w M ν K r next):o.wp P a w next Q:=by
 obtain⟨υ,y,rd,h,b,off,cs,hu,ly,hr⟩:=vW hc.mem (hc.ev x) h
 obtain⟨e,h⟩:=aX h
 subst e
 refine aJ (qd ho (hE.ty t _ ht) hu ly hr) (hn _ _ _ _ _ _ _ h (.refl hc.mem) ?_)
 simp only[VR]
 exact V.bE hr
theorem Qe(hE:EnvTy P E)(hc:Core c σ a.tmps w M ν){t:TypeId}{x:Operand}(ho:o.op= .load t x){K:fk α}{τ:Ty}(ht:E.ty t=some τ)
  (h:pE τ (σ.ρ x) σ.H K=some r) (hn:dG c σ a o w M ν K r next):o.wp P a w next Q:=by
 unfold pE at h
 simp only at h
 split at h
 ·rename_i id p hx
  split at h
  ·rename_i υ z q j aQ
   have hv:=hc.ev x
   rw[hx]at hv
   simp only[VR]at hv
   obtain⟨e1,HI,jE⟩:=hv
   rw[aQ]at HI;cases HI
   simp only[AR]at jE
   obtain⟨hi,b,hb,hu⟩:=jE
   obtain⟨b',cs,te,nA,e0,dq,hg,hM,hr,Ce,h1,hq,dz,hj⟩:=hc.mem.linked aQ
   rw[hb]at dq;cases dq
   cases hp:DP p q
   ·rw[hp]at h
    cases Ae:rL p q
    ·
     rw[Ae]at h
     simp only[cond_false]at h
     obtain⟨υ',y,o',rS,h⟩:=fX h
     obtain⟨e2,h⟩:=aX h
     subst e2
     have hap:=rS.apart hi hq Ae
     have ho':=rS.eq.2
     subst ho'
     have z7:=rS.bound hi
     have hlen:=hr.length
     have gO:Rd w M υ' ((cs.toList.drop (bA p υ)).take υ'.size) y:=by
      rw[Ce,Cb (by simp only[List.length_singleton];omega) (by simp only[List.length_singleton];omega)]
      exact rS.rd hi hr
     refine aJ (qd ho (hE.ty t _ ht) hu (At.of_block hg _ _) gO) (hn _ _ _ _ _ M ν h (.refl hc.mem) ?_)
     simp only[VR]
     exact V.bE gO
    ·
     rw[Ae]at h
     simp only[cond_false,cond_true]at h
     obtain⟨z',ups,M',h,eL,_,_,b2,XR,t2,rQ,MA,Cg,PJ⟩:=sA hc.mem aQ h
     rw[hb]at rQ;cases rQ
     rw[hg]at MA;cases MA
     obtain⟨υ',y,o',rS,h⟩:=fX h
     obtain⟨e2,h⟩:=aX h
     subst e2
     have ho':=rS.eq.2
     subst ho'
     have gO:=rS.rd hi PJ
     refine aJ (qd ho (hE.ty t _ ht) hu (At.of_block hg _ _) gO) (hn _ _ _ _ _ M' ν h eL ?_)
     simp only[VR]
     exact V.bE gO
   ·
    rw[hp]at h
    have:=u5 hp
    subst this
    simp only[cond_true]at h
    obtain⟨hpq,hK⟩:=bx h
    have hτ:τ= .slice e0:=(gw hpq).2.symm.trans (gw hq).2
    subst hτ
    have Js:w.cell? ⟨b,bA p υ,none⟩=some (ν j):=by rw[cell_of hg,←Array.getElem?_toList,Ce,xH dz]
    refine aJ (Ak ho (hE.ty t _ ht) rfl hu Js) (hn _ _ _ _ _ M ν hK (.refl hc.mem) ?_)
    simp only[VR]
    exact⟨hj,trivial⟩
  ·exact D5 hE hc ho ht h hn
 ·exact D5 hE hc ho ht h hn
end VM
end
section
namespace VM
open Go
variable{P:Program}{E:Env}{o:Oper}{a:Act}{w:World}{M:Nat→Prop}{ν:Nat→Value}{σ:St}{c:Ctx}{α:Type}{r:α}{next:Act→World→Prop}{Q:Exit→Act→World→Prop}
theorem Fz.own{H H1:Nat→Option aN}(h:Fz H H1){i:Nat}{e:Ty}{l:List e.den}(hi:H i=some (.own e l)):H1 i=some (.own e l)∨H1 i=some (.kg e l):=by
 rcases h i with h'|⟨e',l',h1,h2⟩
 ·exact .inl (by rw[h',hi])
 ·rw[hi]at h1;cases h1;exact .inr h2
theorem KA(hE:EnvTy P E)(hc:Core c σ a.tmps w M ν){t:TypeId}{x y:Operand}(ho:o.op= .store t x y){K:fk α}{τ:Ty}(ht:E.ty t=some τ)
  (h:iz τ (σ.ρ x) (σ.ρ y) σ.H K=some r) (hn:dG c σ a o w M ν K r next):o.wp P a w next Q:=by
 unfold iz at h
 split at h
 ·rename_i id p hx
  obtain⟨z,rd,ups,M',h,eL,hV,hz,gO⟩:=jS (.refl _) hc.mem (hc.ev y) h
  have hv:=hc.ev x
  rw[hx]at hv
  have XS:=VR.bB eL.bB eL.goes hv
  have tu:=hE.ty t τ ht
  have D6:=hV.cells.length
  rw[Array.length_toList]at D6
  split at h
  ·rename_i υ x0 aQ
   have kX:=hz.obj aQ
   obtain⟨x1,hK,Aj,z7,rR⟩:=kz h
   simp only[VR]at XS
   obtain⟨e1,HI,jE⟩:=XS
   rw[kX]at HI;cases HI
   simp only[AR]at jE
   obtain⟨hi,b,hb,hu⟩:=jE
   have iW:=eL.mem.iJ id _ kX
   simp only[ER]at iW
   obtain⟨b',cs,te,dq,hg,hM,hr⟩:=iW
   rw[hb]at dq;cases dq
   have z7:=z7 hi
   have Qc:=hr.length
   rw[Array.length_toList]at Qc
   have ct:=jh (P:=P) ho tu hu hg D6 (by omega) hV.cells.ki
   rw[Array.length_toList]at ct
   have qg:Tr c (bP σ.H ups) w M' ν (bh (bP σ.H ups) id (some (.obj υ x1))) (w.setRow b (df cs.toList (bA p υ) (a.eval y).cells.toList).toArray) M' ν:=by
    refine Tr.write (e':= .obj υ x1) eL.mem kX trivial trivial rfl (by rw[hb];rfl) hg fun Hh hk u9=> ?_
    simp only[ER]
    refine⟨b,_,te,hb,setRow_heap w b cs _ te _ hg,u9,?_⟩
    exact(rR w M' cs.toList _ hi hr hV.cells).bB hk
   refine mo ct ?_
   refine hn _ _ _ _ _ M' ν hK ?_ (by simp[VR])
   rw[dM]
   have:=eL.trans qg
   unfold df at this
   rw[Array.length_toList]at this
   exact this
  ·rename_i e l aQ
   split at h
   ·rename_i i q h0
    obtain⟨w5,h⟩:=iK h
    have kX:bP σ.H ups id=some (.own e l):=by rw[gO id w5];exact aQ
    obtain⟨y1,hK,Aj,z7,rR⟩:=kz h
    simp only[VR]at XS
    obtain⟨e1,HI,jE⟩:=XS
    rw[kX]at HI;cases HI
    simp only[AR]at jE
    obtain⟨i',q',hpq,Ai,hi,b,n,cp,hb,hu⟩:=jE
    cases hpq
    have iW:=eL.mem.iJ id _ kX
    simp only[ER]at iW
    rcases iW with⟨rfl,_⟩|⟨b',cs,te,cap,dq,hg,hM,Md,hl,AW,hs,hr⟩
    ·simp at Ai
    ·rw[hb]at dq;cases dq
     have z7:=z7 hi
     have oe:=cO (s:=e.size) Ai
     have tk:l.length*e.size≤cp*e.size:=Nat.mul_le_mul_right _ hl
     have ct:=jh (P:=P) ho tu hu hg D6 (by omega) hV.cells.ki
     rw[Array.length_toList]at ct
     have hri:=hr i Ai
     rw[←gv l i e.zero Ai]at hri
     have nj:=rR w M' _ _ hi hri hV.cells
     have hch:((cs.toList.drop (i*e.size)).take e.size).length=e.size:=hri.length
     have Qf:df cs.toList (i*e.size) (df ((cs.toList.drop (i*e.size)).take e.size) (bA q e) (a.eval y).cells.toList)=df cs.toList (i*e.size+bA q e) (a.eval y).cells.toList:=by
      have PI:=nj.length
      have e1:cs.toList=cs.toList.take (i*e.size)++(((cs.toList.drop (i*e.size)).take e.size)++cs.toList.drop (i*e.size+e.size)):=by
       rw[←List.drop_drop,List.take_append_drop,List.take_append_drop]
      have dz:(cs.toList.take (i*e.size)).length=i*e.size:=by rw[List.length_take,Array.length_toList];omega
      conv=>rhs;rw[e1]
      rw[show i*e.size+bA q e=(cs.toList.take (i*e.size)).length+bA q e from by rw[dz],q6,ti (by rw[hch,Array.length_toList];omega)]
      generalize df ((cs.toList.drop (i*e.size)).take e.size) (bA q e) (a.eval y).cells.toList=m at PI ⊢
      unfold df
      rw[PI,List.append_assoc]
     have qg:Tr c (bP σ.H ups) w M' ν (bh (bP σ.H ups) id (some (.own e (List.set l i y1)))) (w.setRow b (df cs.toList (i*e.size+bA q e) (a.eval y).cells.toList).toArray) M' ν:=by
      refine Tr.write (e':= .own e (List.set l i y1)) eL.mem kX trivial trivial ⟨rfl,by rw[List.length_set]⟩ (by rw[hb];simp[dX];omega) hg fun Hh hk u9=> ?_
      simp only[ER]
      refine .inr ⟨b,_,te,cp,by rw[List.length_set];exact hb,setRow_heap w b cs _ te _ hg,u9,Md,by rw[List.length_set];exact hl,AW,?_,?_⟩
      ·rw[←Qf,List.size_toArray,dU (by rw[nj.length,Array.length_toList];omega),Array.length_toList];exact hs
      ·have h9:cs.toList.length=cp*e.size:=by rw[Array.length_toList,hs]
       have h10:=mm.set (w:=w) (M:=M') (cs:=cs.toList) (l:=l) hr (by rw[h9];exact tk) Ai nj
       rw[Qf]at h10
       exact fun j hj=>(h10 j hj).bB hk
     refine mo ct ?_
     refine hn _ _ _ _ _ M' ν hK ?_ (by simp[VR])
     rw[dM]
     have:=eL.trans qg
     unfold df at this
     rw[Array.length_toList]at this
     exact this
   ·cases h
  ·cases h
 ·cases h
theorem Fz.dK{H H1:Nat→Option aN}(h:Fz H H1){i:Nat}{τ:Ty}{x:τ.den}{p:List Step}{j:Nat}(hi:H i=some (.dK τ x p j)):H1 i=some (.dK τ x p j):=by
 rcases h i with h'|⟨e',l',h1,h2⟩
 ·rw[h',hi]
 ·rw[hi]at h1;cases h1
theorem sB{β:Type}{l a:List β}{o:Nat}(hl:o+a.length≤l.length)(i:Nat):(df l o a)[i]? =if o≤i∧i<o+a.length then a[i-o]? else l[i]? :=by
 unfold df
 by_cases h1:i<o
 ·rw[if_neg (by omega),List.append_assoc,List.getElem?_append_left (by simp;omega),List.getElem?_take,if_pos h1]
 ·by_cases h2:i<o+a.length
  ·rw[if_pos (by omega),List.getElem?_append_left (by simp;omega),List.getElem?_append_right (by simp;omega)]
   simp[Nat.min_eq_left (show o≤l.length by omega)]
  ·rw[if_neg (by omega),List.getElem?_append_right (by simp;omega)]
   simp only[List.length_append,List.length_take,Nat.min_eq_left (show o≤l.length by omega),List.getElem?_drop]
   congr 1;omega
theorem D7{β:Type}{l a b:List β}{o o':Nat}(h:o'≤o∧o+a.length≤o'+b.length)(h1:o+a.length≤l.length)(h2:o'+b.length≤l.length):df (df l o a) o' b=df l o' b:=by
 have l1:=dU (a:=l) (o:=o) (new:=a) h1
 apply List.ext_getElem?
 intro i
 rw[sB (by omega),sB (by omega),sB (by omega)]
 by_cases c1:o'≤i∧i<o'+b.length
 ·rw[if_pos c1,if_pos c1]
 ·rw[if_neg c1,if_neg c1,if_neg (by omega)]
theorem AZ{β:Type}{l:List β}{o:Nat}{u v:β}(h:o<l.length):df (df l o [u]) o [v]=df l o [v]:=
 D7 (by simp) (by simp;omega) (by simp;omega)
theorem MB{β:Type}{l a b:List β}{o o':Nat}(h:o+a.length≤o'∨o'+b.length≤o)(h1:o+a.length≤l.length)(h2:o'+b.length≤l.length):df (df l o a) o' b=df (df l o' b) o a:=by
 have l1:=dU (a:=l) (o:=o) (new:=a) h1
 have l2:=dU (a:=l) (o:=o') (new:=b) h2
 apply List.ext_getElem?
 intro i
 rw[sB (by omega),sB (by omega),sB (by omega),sB (by omega)]
 by_cases c1:o'≤i∧i<o'+b.length
 ·rw[if_pos c1,if_neg (by omega),if_pos c1]
 ·rw[if_neg c1]
  by_cases c2:o≤i∧i<o+a.length
  ·rw[if_pos c2,if_pos c2]
  ·rw[if_neg c2,if_neg c2,if_neg c1]
theorem D8{m:(υ:Ty)→υ.den→(υ.den→Option α)→Option α}: ∀{τ:Ty} {x:τ.den} {n:Nat} {k:τ.den→Option α},je τ x n m k=some r→ ∃υ y o k',wY τ x n υ y o∧m υ y k'=some r:=fun h=>by
 obtain⟨υ,y,o,k',h1,h2,_⟩:=nD h
 exact⟨υ,y,o,k',h1,h2⟩
theorem yq{υ:Ty}{u:υ.den}: ∀{p:List Step} {τ:Ty} {x:τ.den} {k:τ.den→Option α},pQ υ u p τ x k=some r→ ∃y o,Ca p τ x υ y o
 |[],τ,x,k,h=>by
  obtain⟨e,_⟩:=aX (h:bW υ τ u k=some r)
  subst e
  exact⟨x,0,.nil x⟩
 | .gp n::p,τ,x,k,h=>by
  obtain⟨υ',y,o,k',hf,hm⟩:=D8 (h:je τ x n _ k=some r)
  obtain⟨y',o',hp⟩:=yq (k:=k') hm
  exact⟨y',_,.gp hf hp⟩
 | .idx i::p,τ,x,k,h=>by
  cases τ with
  |arr n e=>
   obtain⟨y',o',hp⟩:=yq (p:=p) (τ:=e) (x:=List.getD x i e.zero) (k:=fun z=>k (List.set x i z)) h
   exact⟨y',_,.idx hp⟩
  |_=>simp[pQ,xD]at h
theorem A0: ∀{p q:List Step} {τ e:Ty},rL p q=true→ed q τ (.slice e)=true→bA p τ≤bA q τ∧bA q τ+1≤bA p τ+(Ad p τ).size
 |[],q,τ,e,_,hq=>by
  obtain⟨_,_,rS⟩:=od hq τ.zero
  have:=rS.bound (gw hq).1
  have h2:=rS.eq.2
  have:(Ty.slice e).size=1:=rfl
  simp only[bA,Ad]
  omega
 | .gp a::p,.gp b::q,τ,e,hp,hq=>by
  simp only[rL,Bool.and_eq_true]at hp
  have:=Nat.eq_of_beq_eq_true hp.1
  subst this
  unfold ed at hq
  split at hq
  ·rename_i c hc
   obtain⟨_,_,hf⟩:=oc hc τ.zero
   have:=hf.eq.1
   subst this
   have:=A0 hp.2 hq
   simp only[bA,Ad]
   omega
  ·cases hq
 | .gp _::_,[],_,_,hp,_| .gp _::_,.idx _::_,_,_,hp,_| .idx _::_,_,_,_,hp,_=>by simp[rL]at hp
theorem ER.KB{H:Nat→Option aN}(hm:Mem c H w M ν){k:Nat}{e:Ty}{l:List e.den}(hk:H k=some (.own e l)): ∃ad cp,ν k= .slice ad l.length cp:=by
 have:=hm.iJ k _ hk
 simp only[ER]at this
 rcases this with⟨rfl,a,hv⟩|⟨b,cs,t,cap,hv,_⟩
 ·exact⟨a,0,hv⟩
 ·exact⟨_,cap,hv⟩
theorem yr(hE:EnvTy P E)(hc:Core c σ a.tmps w M ν){t:TypeId}{x y:Operand}(ho:o.op= .store t x y){K:fk α}{τ:Ty}(ht:E.ty t=some τ){id k:Nat}{q:List Step}{e:Ty}{υ:Ty}{z:υ.den}
  (hx:σ.ρ x= .fA id q) (hy:σ.ρ y= .ref k) {en:aN} (aQ:σ.H id=some en) (hen:en.mut) (A2:en.g8 (.dK υ z q k)) (hq:ed q υ (.slice e)=true)
  (lA: ∃b cs te nA u,ν id= .pointer (some ⟨b,0,none⟩)∧w.heap[b]? =some (.cells cs te (0,0))∧Rd w M υ nA z∧cs.toList=df nA (bA q υ) [u])
  (h:vS τ id k e q υ z σ.H K=some r) (hn:dG c σ a o w M ν K r next):o.wp P a w next Q:=by
 unfold vS at h
 split at h
 ·rename_i e' l hk
  obtain⟨e1,h1⟩:=dA h
  clear h
  subst e1
  obtain⟨e2,h2⟩:=dA h1
  clear h1
  subst e2
  obtain⟨z',hK,Aj,z7,rR⟩:=kz h2
  obtain⟨b,cs,te,nA,u,hb,hg,hr,Ce⟩:=lA
  have Mz:=(gw hq).1
  obtain⟨ad,cp,hνk⟩:=ER.KB hc.mem hk
  have w6:=hc.ev y
  rw[hy]at w6
  simp only[VR]at w6
  have w6:=w6.2
  have z7:=z7 Mz
  have hlen:=hr.length
  have Hj:(Ty.slice e').size=1:=rfl
  have dz:bA q υ<nA.length:=by omega
  have D6:cs.toList.length=nA.length:=by rw[Ce];exact dU (by simp;omega)
  have hv:=hc.ev x
  rw[hx]at hv
  simp only[VR]at hv
  obtain⟨e3,he3,jE⟩:=hv
  rw[aQ]at he3;cases he3
  have jE:=jE.g8 A2
  simp only[AR]at jE
  obtain⟨_,b',dq,hu⟩:=jE
  rw[hb]at dq;cases dq
  have hyc:(a.eval y).cells.toList=[ν k]:=by rw[w6,hνk];rfl
  have nE:(a.eval y).cells.size=(Ty.slice e').size:=by rw[←Array.length_toList,hyc];rfl
  have ct:=jh (P:=P) ho (hE.ty t _ ht) hu hg nE (by rw[←Array.length_toList];omega) (by rw[hyc,hνk];simp[Value.oneCell'])
  have nj:(cs.toList.take (bA q υ)++(a.eval y).cells.toList++cs.toList.drop (bA q υ+(a.eval y).cells.toList.length))=df nA (bA q υ) [ν k]:=by
   rw[hyc]
   show df cs.toList (bA q υ) [ν k]=_
   rw[Ce,AZ dz]
  rw[nj]at ct
  have hrz:Rd w M υ (df nA (bA q υ) [.slice none 0 0]) z':=rR w M nA [.slice none 0 0] Mz hr (Rd.zero w M (.slice e'))
  have eL:Tr c σ.H w M ν (bh σ.H id (some (.dK υ z' q k))) (w.setRow b (df nA (bA q υ) [ν k]).toArray) M ν:=by
   refine Tr.write (e':= .dK υ z' q k) hc.mem aQ hen trivial (by cases en<;>simp only[aN.g8]at A2 ⊢ <;>exact A2) (by rw[hb];rfl) hg (fun Hh Al u9=> ?_) (fun τ' x' p' j' hl=> ?_)
   ·simp only[ER]
    refine⟨b,_,te,df nA (bA q υ) [.slice none 0 0],ν k,hb,setRow_heap w b cs _ te _ hg,u9,hrz.bB Al,?_,by rw[hνk];rfl,e',hq⟩
    rw[AZ dz]
   ·cases hl
    refine⟨by rw[hk];simp,b,hb,?_⟩
    rw[cell_of (setRow_heap w b cs _ te _ hg),←Array.getElem?_toList]
    show(df nA (bA q υ) [ν k])[bA q υ]? =_
    rw[xH dz]
  exact mo ct (hn _ _ _ _ _ M ν hK eL (by simp[VR]))
 ·cases h
theorem yt(hE:EnvTy P E)(hc:Core c σ a.tmps w M ν){t:TypeId}{x y:Operand}(ho:o.op= .store t x y){K:fk α}{τ:Ty}(ht:E.ty t=some τ)
  (h:fV E τ (σ.ρ x) (σ.ρ y) σ.H K=some r) (hn:dG c σ a o w M ν K r next):o.wp P a w next Q:=by
 have hold:iz τ (σ.ρ x) (σ.ρ y) σ.H K=some r→o.wp P a w next Q:=fun h=>KA hE hc ho ht h hn
 unfold fV at h
 simp only at h
 split at h
 ·rename_i id p hx
  have oH:=hx
  split at h
  ·rename_i υ z aQ
   split at h
   ·rename_i q e k og hy
    cases hp:DP p q
    ·rw[hp]at h;exact hold h
    ·rw[hp]at h
     simp only[cond_true]at h
     have:=u5 hp
     subst this
     have hq:=oj og
     have iW:=hc.mem.iJ id _ aQ
     simp only[ER]at iW
     obtain⟨b,cs,te,hb,hg,hM,hr⟩:=iW
     have dz:bA p υ<cs.toList.length:=by
      obtain⟨_,_,rS⟩:=od hq z
      have:=rS.bound (gw hq).1
      have h2:=rS.eq.2
      have:=hr.length
      have:(Ty.slice e).size=1:=rfl
      omega
     refine yr hE hc ho ht hx hy aQ trivial rfl hq ⟨b,cs,te,cs.toList,cs.toList[bA p υ],hb,hg,hr,?_⟩ h hn
     exact(DZ (List.getElem?_eq_getElem dz)).symm
   ·exact hold h
  ·rename_i υ z q j aQ
   obtain⟨b,cs,te,nA,e0,hb,hg,hM,hr,Ce,h1,hq,dz,hj⟩:=hc.mem.linked aQ
   have tv:ix true (σ.ρ y) σ.H τ (fun y rd ups=>pQ τ y p υ z fun z=>K .any (id::rd) (ups++[(id,some (cond (rL p q) (.obj υ z) (.dK υ z q j)))]))=some r→o.wp P a w next Q:=by
    intro h
    obtain⟨u,rd,ups,M',h,eL,hV,hz,gO⟩:=jS (.refl _) hc.mem (hc.ev y) h
    have kX:=hz.dK aQ
    have hv:=hc.ev x
    rw[hx]at hv
    have XS:=VR.bB eL.bB eL.goes hv
    simp only[VR]at XS
    obtain⟨e1,HI,jE⟩:=XS
    rw[kX]at HI;cases HI
    simp only[AR]at jE
    obtain⟨hi,b1,jD,hu⟩:=jE
    rw[hb]at jD;cases jD
    obtain⟨b2,XR,te2,cs3,e3,rQ,MA,Cg,PJ,Qg,h12,hq2,acX,hj2⟩:=eL.mem.linked kX
    rw[hb]at rQ;cases rQ
    rw[hg]at MA;cases MA
    obtain⟨z',hK,Aj,z7,rR⟩:=kz h
    have z7:=z7 hi
    have Qc:=PJ.length
    have D6:cs.toList.length=cs3.length:=by rw[Qg];exact dU (by simp;omega)
    have hcy:=hV.cells.length
    rw[Array.length_toList]at hcy
    have apW:(a.eval y).cells.toList.length=τ.size:=by rw[Array.length_toList];exact hcy
    have ct:=jh (P:=P) ho (hE.ty t _ ht) hu hg hcy (by rw[←Array.length_toList];omega) hV.cells.ki
    have MC:cs.toList.take (bA p υ)++(a.eval y).cells.toList++cs.toList.drop (bA p υ+(a.eval y).cells.toList.length)=df cs.toList (bA p υ) (a.eval y).cells.toList:=rfl
    rw[MC]at ct
    have hzr:=rR w M' cs3 _ hi PJ hV.cells
    have fin: ∀e',e'.mut→aN.g8 (.dK υ z q j) e'→K .any (id::rd) (ups++[(id,some e')])=some r→(∀Hh,dd w M' (w.setRow b (df cs.toList (bA p υ) (a.eval y).cells.toList).toArray) Hh→Hh b→ER (w.setRow b (df cs.toList (bA p υ) (a.eval y).cells.toList).toArray) Hh (ν id) e')→
      (∀τ' x' p' j',e'= .dK τ' x' p' j'→(bP σ.H ups) j'≠none∧ ∃b',ν id= .pointer (some ⟨b',0,none⟩)∧(w.setRow b (df cs.toList (bA p υ) (a.eval y).cells.toList).toArray).cell? ⟨b',bA p' τ',none⟩=some (ν j'))→o.wp P a w next Q:=by
     intro e' gy DD hK Kw og
     have qg:=Tr.write (e':=e') eL.mem kX trivial gy DD (by rw[hb];rfl) hg Kw og
     refine mo ct (hn _ _ _ _ _ M' ν hK ?_ (by simp[VR]))
     rw[dM]
     exact eL.trans qg
    cases Ae:rL p q
    ·rw[Ae]at hK
     simp only[cond_false]at hK
     obtain⟨yy,oo,rS⟩: ∃y o,Ca p υ z τ y o:=yq h
     have hap:=rS.apart hi hq Ae
     have hoo:=rS.eq.2
     subst hoo
     have Ww:df cs.toList (bA p υ) (a.eval y).cells.toList=df (df cs3 (bA p υ) (a.eval y).cells.toList) (bA q υ) [ν j]:=by
      rw[Qg]
      exact MB (by simp only[List.length_singleton];omega) (by simp only[List.length_singleton];omega) (by omega)
     have PI:=dU (a:=cs3) (o:=bA p υ) (new:=(a.eval y).cells.toList) (by omega)
     refine fin (.dK υ z' q j) trivial rfl hK (fun Hh hk u9=> ?_) (fun τ' x' p' j' hl=> ?_)
     ·simp only[ER]
      exact⟨b,_,te,_,ν j,hb,setRow_heap w b cs _ te _ hg,u9,hzr.bB hk,Ww,h1,e0,hq⟩
     ·cases hl
      refine⟨hj2,b,hb,?_⟩
      rw[cell_of (setRow_heap w b cs _ te _ hg),←Array.getElem?_toList]
      show(df cs.toList (bA p υ) (a.eval y).cells.toList)[bA q υ]? =_
      rw[Ww,xH (by omega)]
    ·rw[Ae]at hK
     simp only[cond_true]at hK
     refine fin (.obj υ z') trivial rfl hK (fun Hh hk u9=> ?_) (fun τ' x' p' j' hl=>by cases hl)
     simp only[ER]
     refine⟨b,_,te,hb,setRow_heap w b cs _ te _ hg,u9,?_⟩
     show Rd _ _ υ (df cs.toList (bA p υ) (a.eval y).cells.toList) z'
     have ky:=A0 Ae hq
     rw[Aj]at ky
     have ho:df cs.toList (bA p υ) (a.eval y).cells.toList=df cs3 (bA p υ) (a.eval y).cells.toList:=by
      rw[Qg]
      exact D7 (by simp only[List.length_singleton];omega) (by simp only[List.length_singleton];omega) (by omega)
     have h9:=hzr.bB hk
     rw[←ho]at h9
     exact h9
   split at h
   ·rename_i q' e k og hy
    cases hp:(DP p q&&DP q q')
    ·rw[hp]at h;exact tv h
    ·rw[hp]at h
     simp only[cond_true]at h
     rw[Bool.and_eq_true]at hp
     have:=u5 hp.1
     subst this
     have:=u5 hp.2
     subst this
     refine yr hE hc ho ht hx hy aQ trivial rfl (oj og) ⟨b,cs,te,nA,ν j,hb,hg,hr,Ce⟩ h hn
   ·exact tv h
  ·exact hold h
 ·exact hold h
theorem KC(hE:EnvTy P E)(hc:Core c σ a.tmps w M ν){t:TypeId}{x y:Operand}(ho:o.op= .store t x y){K:fk α}{τ:Ty}(ht:E.ty t=some τ)
  (h:nR E τ (σ.ρ x) (σ.ρ y) σ.H K=some r) (hn:dG c σ a o w M ν K r next):o.wp P a w next Q:=by
 unfold nR at h
 split at h
 ·rename_i id υ z n hx hy
  split at h
  ·rename_i m e og
   cases yp:Nat.beq m n
   ·rw[yp]at h
    simp only[cond_false]at h
    exact yt hE hc ho ht h hn
   ·rw[yp]at h
    simp only[cond_true]at h
    have yp:=Nat.eq_of_beq_eq_true yp
    subst yp
    obtain⟨e1,h1⟩:=dA h
    clear h
    subst e1
    have hq:=oj og
    have w6:=hc.ev y
    rw[hy]at w6
    simp only[VR]at w6
    obtain⟨hV,cs,ad,hva,hz⟩:=w6
    have hcy:(a.eval y).cells=cs:=by rw[hva];rfl
    obtain⟨en,aQ,hen,hK⟩: ∃en:aN,σ.H id=some en∧(∃z0,en= .obj τ z0∨ ∃q j,en= .dK τ z0 q j)∧σ.H (id+2)=none∧K .any [id,id+2] [(id,some (.dK τ z [.gp m] (id+2))),(id+2,some (.own e []))]=some r:=by
     unfold jg at h1
     split at h1
     ·rename_i υ z0 aQ
      obtain⟨e2,h2⟩:=dA h1
      clear h1
      subst e2
      obtain⟨h3,h4⟩:=g9 h2
      exact⟨_,aQ,⟨z0,.inl rfl⟩,h3,h4⟩
     ·rename_i υ z0 q j aQ
      obtain⟨e2,h2⟩:=dA h1
      clear h1
      subst e2
      obtain⟨h3,h4⟩:=g9 h2
      exact⟨_,aQ,⟨z0,.inr ⟨q,j,rfl⟩⟩,h3,h4⟩
     ·cases h1
     ·cases h1
     ·cases h1
    obtain⟨hk,hK⟩:=hK
    have aiZ:en.mut:=by rcases hen with⟨z0,rfl|⟨q,j,rfl⟩⟩<;>trivial
    have A2:en.g8 (.obj τ z):=by rcases hen with⟨z0,rfl|⟨q,j,rfl⟩⟩<;>rfl
    obtain⟨b,nA,te,hb,hg,nE⟩: ∃b nA te,ν id= .pointer (some ⟨b,0,none⟩)∧w.heap[b]? =some (.cells nA te (0,0))∧nA.toList.length=τ.size:=by
     rcases hen with⟨z0,rfl|⟨q,j,rfl⟩⟩
     ·have:=hc.mem.iJ id _ aQ
      simp only[ER]at this
      obtain⟨b,nA,te,h2,h3,_,h5⟩:=this
      exact⟨b,nA,te,h2,h3,h5.length⟩
     ·obtain⟨b,nA,te,ta,_,h2,h3,_,h5,h6,_,_,h7,_⟩:=hc.mem.linked aQ
      refine⟨b,nA,te,h2,h3,?_⟩
      rw[h6,dU (by simp only[List.length_singleton];omega),h5.length]
    have hv:=hc.ev x
    rw[hx]at hv
    simp only[VR]at hv
    obtain⟨e3,he3,jE⟩:=hv
    rw[aQ]at he3;cases he3
    have jE:=jE.g8 A2
    simp only[AR]at jE
    obtain⟨_,b',dq,hu⟩:=jE
    rw[hb]at dq;cases dq
    have D6:=hV.cells.length
    have ct:=jh (P:=P) ho (hE.ty t _ ht) hu hg (by rw[←Array.length_toList];exact D6) (by rw[←Array.length_toList,nE];simp[bA]) hV.cells.ki
    have MC:nA.toList.take (bA [] τ)++(a.eval y).cells.toList++nA.toList.drop (bA [] τ+(a.eval y).cells.toList.length)=(a.eval y).cells.toList:=by
     simp only[bA,List.take_zero,List.nil_append,Nat.zero_add]
     rw[List.drop_of_length_le (by omega),List.append_nil]
    rw[MC]at ct
    have rR:=setRow_heap w b nA (a.eval y).cells.toList.toArray te _ hg
    have eL:=Tr.write (e':= .obj τ z) (new:=(a.eval y).cells.toList.toArray) hc.mem aQ aiZ trivial A2 (by rw[hb];rfl) hg (fun Hh Al u9=>by
     simp only[ER]
     exact⟨b,_,te,hb,rR,u9,hV.cells.bB Al⟩)
    have g7:id+2≠id:=by omega
    have qg:=Tr.Mw eL.mem (id:=id) (k:=id+2) (by rw[al _ _ g7];exact hk) (ak _ _ _) hb rR hq (ad:=ad) (by rw[hcy];simpa [bA]using hz)
    have e1:bP (bh σ.H id (some (.obj τ z))) [(id,some (.dK τ z [.gp m] (id+2))),(id+2,some (.own e []))]=bP σ.H [(id,some (.dK τ z [.gp m] (id+2))),(id+2,some (.own e []))]:=by
     show bh (bh (bh σ.H id _) id _) (id+2) _=bh (bh σ.H id _) (id+2) _
     rw[sy]
    rw[e1]at qg
    exact mo ct (hn _ _ _ _ _ _ _ hK (eL.trans qg) (by simp[VR]))
  ·exact yt hE hc ho ht h hn
 ·exact yt hE hc ho ht h hn
end VM
end
section
namespace VM
open Go
variable{P:Program}{E:Env}{o:Oper}{a:Act}{w:World}{M:Nat→Prop}{ν:Nat→Value}{σ:St}{c:Ctx}{α:Type}{r:α}{next:Act→World→Prop}{Q:Exit→Act→World→Prop}
theorem nb{n:Nat}(h:Nat.beq n 0=false):n≠0:=by rw[←Bool.not_eq_true,Nat.beq_eq]at h;exact h
theorem At.sub{b off:Nat}{cs:List Value}(h:At w b off cs)(o n:Nat):At w b (off+o) ((cs.drop o).take n):=by
 intro j v hj
 rw[List.getElem?_take]at hj
 split at hj
 ·rw[List.getElem?_drop]at hj
  have:=h _ v hj
  rwa [←Nat.add_assoc]at this
 ·cases hj
def qi:aN→List Step→Option Ty
 | .obj τ _,p=>some (Ad p τ)
 | .dK τ _ _ _,p=>some (Ad p τ)
 | .own e _,.idx _::p| .kg e _,.idx _::p=>some (Ad p e)
 |_,_=>none
theorem yu{id:Nat}{p:List Step}{H:Nat→Option aN}{k:Ty→Option α}(h:jg id p H k=some r): ∃e υ,H id=some e∧qi e p=some υ∧k υ=some r:=by
 unfold jg at h
 split at h
 ·rename_i τ x aQ
  obtain⟨υ,y,o,hp,hk⟩:=fX h
  exact⟨_,υ,aQ,by simp[qi,hp.eq.1],hk⟩
 ·rename_i τ x _ _ aQ
  obtain⟨υ,y,o,hp,hk⟩:=fX h
  exact⟨_,υ,aQ,by simp[qi,hp.eq.1],hk⟩
 ·rename_i e l aQ
  split at h
  ·obtain⟨υ,y,o,hp,hk⟩:=fX h
   exact⟨_,υ,aQ,by simp[qi,hp.eq.1],hk⟩
  ·cases h
 ·rename_i e l aQ
  split at h
  ·obtain⟨υ,y,o,hp,hk⟩:=fX h
   exact⟨_,υ,aQ,by simp[qi,hp.eq.1],hk⟩
  ·cases h
 ·cases h
theorem AR.step{v:Value}{p:List Step}{u:Value}{e:aN}{υ:Ty}(h:AR v p u e)(ht:qi e p=some υ)(s:Step)(hs:rO [s] υ):
  ∃b off,u= .pointer (some ⟨b,off,none⟩)∧AR v (p++[s]) (.pointer (some ⟨b,off+bA [s] υ,none⟩)) e:=by
 cases e with
 |obj τ x=>
  simp only[qi,Option.some.injEq]at ht
  simp only[AR]at h ⊢
  obtain⟨hi,b,hb,rfl⟩:=h
  subst ht
  exact⟨b,_,rfl,(nz p [s] τ).2 ⟨hi,hs⟩,b,hb,by rw[ny]⟩
 |dK τ x _ _=>
  simp only[qi,Option.some.injEq]at ht
  simp only[AR]at h ⊢
  obtain⟨hi,b,hb,rfl⟩:=h
  subst ht
  exact⟨b,_,rfl,(nz p [s] τ).2 ⟨hi,hs⟩,b,hb,by rw[ny]⟩
 |own e l=>
  simp only[AR]at h ⊢
  obtain⟨i,q,rfl,Ai,hi,b,n,cp,hb,rfl⟩:=h
  simp only[qi,Option.some.injEq]at ht
  subst ht
  exact⟨b,_,rfl,i,q++[s],rfl,Ai,(nz q [s] e).2 ⟨hi,hs⟩,b,n,cp,hb,by rw[ny,Nat.add_assoc]⟩
 |kg e l=>
  simp only[AR]at h ⊢
  obtain⟨i,q,rfl,Ai,hi,b,n,cp,hb,rfl⟩:=h
  simp only[qi,Option.some.injEq]at ht
  subst ht
  exact⟨b,_,rfl,i,q++[s],rfl,Ai,(nz q [s] e).2 ⟨hi,hs⟩,b,n,cp,hb,by rw[ny,Nat.add_assoc]⟩
 |gone=>simp[qi]at ht
theorem vb(hE:EnvTy P E)(hc:Core c σ a.tmps w M ν){t:TypeId}{x:Operand}{n:Nat}(ho:o.op= .fieldAddr t x n){K:fk α}{τ:Ty}(ht:E.ty t=some τ){id:Nat}{p:List Step}(hx:σ.ρ x= .fA id p)
  (h:jg id p σ.H (fun υ=>jf υ τ (rM τ τ.zero n fun υ' _=>cond (Nat.beq υ'.size 0) none (K (.fA id (p++[.gp n])) [id] [])))=some r) (hn:dG c σ a o w M ν K r next):o.wp P a w next Q:=by
 obtain⟨e,υ,aQ,het,h⟩:=yu h
 obtain⟨XT,h_⟩:=dA h
 clear h
 subst XT
 have h:=h_
 clear h_
 obtain⟨υ',y,of,hf,h⟩:=ob h
 obtain⟨hz,h⟩:=iK h
 have hv:=hc.ev x
 rw[hx]at hv
 simp only[VR]at hv
 obtain⟨e',sd,jE⟩:=hv
 rw[aQ]at sd;cases sd
 obtain⟨b,off,hu,XU⟩:=jE.step het (.gp n) trivial
 obtain⟨fs,f,Hk,hff,hfo,MD⟩:=(hE.ty t υ ht).gp hf
 obtain⟨v,ct,hvv⟩:=oi (P:=P) ho (w:=w) Hk hff MD (nb hz) hu
 refine aJ ct (hn _ _ _ _ _ M ν h (.refl hc.mem) ?_)
 simp only[VR]
 refine⟨e,aQ,?_⟩
 rw[hvv,hfo,hf.eq.2]
 simpa [bA]using XU
theorem tw(hE:EnvTy P E)(hc:Core c σ a.tmps w M ν){t:TypeId}{x:Operand}{n:Nat}(ho:o.op= .fieldAddr t x n){K:fk α}{τ:Ty}(ht:E.ty t=some τ){υ:Ty}{z:υ.den}(hx:σ.ρ x= .me υ z)
  (h:jf υ τ (rM υ z n fun υ y=>cond (Nat.beq υ.size 0) none (K (.me υ y) [] []))=some r) (hn:dG c σ a o w M ν K r next):o.wp P a w next Q:=by
 obtain⟨he,h1⟩:=dA h
 subst he
 obtain⟨υ',y,of,hf,h⟩:=ob h1
 obtain⟨hz,h⟩:=iK h
 have hv:=hc.ev x
 rw[hx]at hv
 simp only[VR]at hv
 obtain⟨b,off,hu,hb,hM,cs,ly,hr⟩:=hv
 obtain⟨fs,f,Hk,hff,hfo,MD⟩:=(hE.ty t υ ht).gp hf
 obtain⟨v,ct,hvv⟩:=oi (P:=P) ho (w:=w) Hk hff MD (nb hz) hu
 refine aJ ct (hn _ _ _ _ _ M ν h (.refl hc.mem) ?_)
 simp only[VR]
 exact⟨b,off+f.offset,hvv,hb,hM,_,by rw[hfo];exact ly.sub of υ'.size,hf.rd hr⟩
theorem V.agg{τ:Ty}(ha:τ.isAgg=true){v:Value}{x:τ.den}(h:V w M τ v x): ∃cs,v= .agg cs∧Rd w M τ cs.toList x:=by
 unfold V at h;rw[if_pos ha]at h;exact h
theorem wY.agg{τ:Ty}{x:τ.den}{n:Nat}{υ:Ty}{y:υ.den}{o:Nat}(h:wY τ x n υ y o):τ.isAgg=true:=by cases h<;>rfl
theorem ME(hE:EnvTy P E)(hc:Core c σ a.tmps w M ν){t:TypeId}{x:Operand}{n:Nat}(ho:o.op= .field t x n){K:fk α}{τ:Ty}(ht:E.ty t=some τ){υ:Ty}{z:υ.den}(hx:σ.ρ x= .val υ z)
  (h:jf υ τ (rM υ z n fun υ y=>K (.val υ y) [] [])=some r) (hn:dG c σ a o w M ν K r next):o.wp P a w next Q:=by
 obtain⟨he,h1⟩:=dA h
 subst he
 obtain⟨υ',y,of,hf,h⟩:=ob h1
 have hv:=hc.ev x
 rw[hx]at hv
 simp only[VR]at hv
 obtain⟨cs,hu,hr⟩:=hv.agg hf.agg
 obtain⟨fs,f,Hk,hff,hfo,MD⟩:=(hE.ty t υ ht).gp hf
 have eg:=hf.rd hr
 refine aJ (Cd ho Hk hff MD hu (by rw[hfo];exact eg)) (hn _ _ _ _ _ M ν h (.refl hc.mem) ?_)
 simp only[VR]
 rw[hfo]
 exact V.bE eg
theorem Ch(hE:EnvTy P E)(hc:Core c σ a.tmps w M ν){t:TypeId}{x i:Operand}(ho:o.op= .indexAddr t x i){K:fk α}{τ:Ty}(ht:E.ty t=some τ)
  (h:dT τ (σ.ρ x) (σ.ρ i) σ.H K=some r) (hn:dG c σ a o w M ν K r next):o.wp P a w next Q:=by
 unfold dT at h
 obtain⟨k,n,hi,h2⟩:=ji h
 clear h
 have h:=h2
 clear h2
 have Jt:=hc.ev i
 rw[hi]at Jt
 have Jt:=Jt.int
 have hv:=hc.ev x
 have tu:=hE.ty t τ ht
 split at h
 ·
  rename_i e
  obtain⟨e',Hk,hle⟩:=tu.slice
  split at h
  ·rename_i υ l hx
   obtain⟨e1,h⟩:=aX h
   subst e1
   obtain⟨ky,h⟩:=bx h
   obtain⟨h0,h1⟩:=oO ky
   have h1:n<(List.length l:Int):=h1
   rw[hx]at hv
   simp only[VR]at hv
   have hv:=V.slice.1 hv
   simp only[Rd,List.cons.injEq,and_true]at hv
   obtain⟨ad,cap,hu,ac0,hr⟩:=hv
   obtain⟨b,off,rfl,hb,hM,cs,ly,gO⟩:=hr n.toNat (by omega)
   refine aJ (gS ho Hk hle hu Jt h0 h1) (hn _ _ _ _ _ M ν h (.refl hc.mem) ?_)
   simp only[VR]
   refine⟨b,_,rfl,hb,hM,cs,ly,?_⟩
   have:Rd w M e cs (List.getD l n.toNat e.zero):=by rw[gv l n.toNat e.zero (by omega)];exact gO
   exact this
  ·rename_i id hx
   rw[hx]at hv
   simp only[VR]at hv
   obtain⟨_,hu⟩:=hv
   split at h
   ·rename_i e2 l aQ
    obtain⟨XT,h_⟩:=dA h
    clear h
    subst XT
    have h:=h_
    clear h_
    obtain⟨ky,h⟩:=bx h
    obtain⟨h0,h1⟩:=oO ky
    have iW:=hc.mem.iJ id _ aQ
    simp only[ER]at iW
    rcases iW with⟨rfl,_⟩|⟨b,cs,te,cap,hb,hg,hM,Md,hl,AW,hs,hr⟩
    ·simp at h1;omega
    ·rw[hb]at hu
     refine aJ (gS ho Hk hle hu Jt h0 h1) (hn _ _ _ _ _ M ν h (.refl hc.mem) ?_)
     simp only[VR]
     refine⟨_,aQ,?_⟩
     simp only[AR]
     exact⟨n.toNat,[],rfl,by omega,trivial,b,_,_,hb,by simp[bA]⟩
   ·rename_i e2 l aQ
    obtain⟨XT,h_⟩:=dA h
    clear h
    subst XT
    have h:=h_
    clear h_
    obtain⟨ky,h⟩:=bx h
    obtain⟨h0,h1⟩:=oO ky
    have iW:=hc.mem.iJ id _ aQ
    simp only[ER]at iW
    obtain⟨gO,hhd⟩:=iW
    simp only[Rd,List.cons.injEq,and_true]at gO
    obtain⟨ad,cap,hb,ac0,hr⟩:=gO
    rcases hhd with⟨rfl,_⟩|⟨b,n2,c2,rQ⟩
    ·simp at h1;omega
    ·rw[hb]at rQ;cases rQ
     rw[hb]at hu
     refine aJ (gS ho Hk hle hu Jt h0 h1) (hn _ _ _ _ _ M ν h (.refl hc.mem) ?_)
     simp only[VR]
     refine⟨_,aQ,?_⟩
     simp only[AR]
     exact⟨n.toNat,[],rfl,by omega,trivial,b,_,_,hb,by simp[bA]⟩
   ·cases h
  ·cases h
 ·
  rename_i len e
  obtain⟨e',Hk,hle⟩:=tu.arr
  split at h
  ·rename_i id p hx
   obtain⟨en,υ,aQ,het,h⟩:=yu h
   obtain⟨XT,h_⟩:=dA h
   clear h
   subst XT
   have h:=h_
   clear h_
   obtain⟨ky,h⟩:=bx h
   obtain⟨h0,h1⟩:=oO ky
   rw[hx]at hv
   simp only[VR]at hv
   obtain⟨en',sd,jE⟩:=hv
   rw[aQ]at sd;cases sd
   obtain⟨b,off,hu,XU⟩:=jE.step het (.idx n.toNat) ⟨⟨len,e,rfl,by omega⟩,trivial⟩
   refine aJ (nC ho Hk hle hu Jt h0 h1) (hn _ _ _ _ _ M ν h (.refl hc.mem) ?_)
   simp only[VR]
   refine⟨en,aQ,?_⟩
   simpa [bA,XJ]using XU
  ·rename_i υ l hx
   obtain⟨e1,h⟩:=aX h
   subst e1
   obtain⟨ky,h⟩:=bx h
   obtain⟨h0,h1⟩:=oO ky
   rw[hx]at hv
   simp only[VR]at hv
   obtain⟨b,off,hu,hb,hM,cs,ly,hr⟩:=hv
   refine aJ (nC ho Hk hle hu Jt h0 h1) (hn _ _ _ _ _ M ν h (.refl hc.mem) ?_)
   simp only[VR]
   exact⟨b,_,rfl,hb,hM,_,ly.sub _ e.size,hr.idx (by omega)⟩
  ·cases h
 ·cases h
theorem w7(hc:Core c σ a.tmps w M ν){x:Operand}(ho:o.op= .nilCheck x){K:fk α}{id:Nat}{p:List Step}(hx:σ.ρ x= .fA id p)
  (h:K (.fA id p) [] []=some r) (hn:dG c σ a o w M ν K r next):o.wp P a w next Q:=by
 have hv:=hc.ev x
 have MF:=hv
 rw[hx]at hv
 simp only[VR]at hv
 obtain⟨e,he,jE⟩:=hv
 obtain⟨ad,hu⟩:=jE.ptr
 refine aJ (pH ho hu) (hn _ _ _ _ _ M ν h (.refl hc.mem) ?_)
 rw[←hu,←hx];exact MF
theorem vd(hc:Core c σ a.tmps w M ν){x:Operand}(ho:o.op= .nilCheck x){K:fk α}{τ:Ty}{z:τ.den}(hx:σ.ρ x= .me τ z)
  (h:K (.me τ z) [] []=some r) (hn:dG c σ a o w M ν K r next):o.wp P a w next Q:=by
 have hv:=hc.ev x
 have MF:=hv
 rw[hx]at hv
 simp only[VR]at hv
 obtain⟨b,off,hu,_⟩:=hv
 refine aJ (pH ho hu) (hn _ _ _ _ _ M ν h (.refl hc.mem) ?_)
 rw[←hu,←hx];exact MF
theorem fC.get{H:Nat→Option aN}: ∀{lx:List aV} {vs:List Value},fC w M H ν lx vs→ ∀{i:Nat} {x:aV},lx[i]? =some x→ ∃v,vs[i]? =some v∧VR w M H ν x v
 |[],_,_,i,x,hx=>by simp at hx
 |y::lx,[],h,_,_,_=>by simp[fC]at h
 |y::lx,v::vs,h,0,x,hx=>by
  simp only[fC]at h
  simp at hx;subst hx
  exact⟨v,rfl,h.1⟩
 |y::lx,v::vs,h,i+1,x,hx=>by
  simp only[fC]at h
  exact fC.get h.2 (by simpa using hx)
theorem HJ(hc:Core c σ a.tmps w M ν){x:Operand}{i:Nat}(ho:o.op= .extract x i){K:fk α}{vs:List aV}{v:aV}(hx:σ.ρ x= .tup vs)(hi:vs[i]? =some v)
  (h:K v [] []=some r) (hn:dG c σ a o w M ν K r next):o.wp P a w next Q:=by
 have hv:=hc.ev x
 rw[hx]at hv
 simp only[VR]at hv
 obtain⟨us,hu,Qh⟩:=hv
 obtain⟨u,hui,hvu⟩:=Qh.get hi
 exact aJ (yl ho hu hui) (hn _ _ _ _ _ M ν h (.refl hc.mem) hvu)
theorem Core.evs(hc:Core c σ a.tmps w M ν): ∀xs:List Operand,fC w M σ.H ν (xs.map σ.ρ) (xs.map a.eval)
 |[]=>by simp[fC]
 |x::xs=>by simp only[List.map_cons,fC];exact⟨hc.ev x,hc.evs xs⟩
theorem qj: ∀{lx:List aV} {vs:List Value} {H:Nat→Option aN} {M:Nat→Prop} {K:List aV→List Nat→fj→Option α},Mem c H w M ν→fC w M H ν lx vs→p9 H lx K=some r→
  ∃cs rd ups M',K cs rd ups=some r∧Tr c H w M ν (bP H ups) w M' ν∧fC w M' (bP H ups) ν cs vs
 |[],vs,H,M,K,hm,hv,h=>⟨[],[],[],M,h,.refl hm,hv⟩
 |x::xs,[],H,M,K,hm,hv,h=>by simp[fC]at hv
 |x::xs,v::vs,H,M,K,hm,hv,h=>by
  simp only[fC]at hv
  unfold p9 at h
  split at h
  ·rename_i id
   split at h
   ·rename_i τ z aQ
    obtain⟨M1,b,ht,hb,dz,hM,nA,ly,gO⟩:=Tr.fix hm aQ
    obtain⟨cs,rd,ups,M2,hK,PK,Qi⟩:=qj ht.mem (fC.bB ht.bB ht.goes hv.2) h
    refine⟨_,_,_,M2,hK,ht.trans PK,?_⟩
    have h1:VR w M1 (bh H id (some .gone)) ν (.me τ z) v:=by
     have D9:=hv.1
     simp only[VR]at D9 ⊢
     obtain⟨e,he,jE⟩:=D9
     rw[aQ]at he;cases he
     simp only[AR]at jE
     obtain⟨_,b',dq,D9⟩:=jE
     rw[hb]at dq;cases dq
     exact⟨b,0,D9,dz,hM,nA,ly,gO⟩
    simp only[fC]
    exact⟨VR.bB PK.bB PK.goes h1,Qi⟩
   ·cases h
  ·obtain⟨cs,rd,ups,M2,hK,PK,Qi⟩:=qj hm hv.2 h
   refine⟨_,_,_,M2,hK,PK,?_⟩
   simp only[fC]
   exact⟨VR.bB PK.bB PK.goes hv.1,Qi⟩
theorem Ea(hc:Core c σ a.tmps w M ν){f:FuncId}{first caps:Array Operand}(ho:o.op= .makeFunc (.func f) first caps){K:fk α}
  (h:cond first.isEmpty (p9 σ.H (caps.toList.map σ.ρ) fun cs rd ups=>K (.DQ f cs) rd ups) none=some r) (hn:dG c σ a o w M ν K r next):o.wp P a w next Q:=by
 obtain⟨hf,h⟩:=bx h
 obtain⟨cs,rd,ups,M',hK,ht,hv⟩:=qj hc.mem (hc.evs _) h
 refine aJ (w3 ho (by simpa using hf)) (hn _ _ _ _ _ M' ν hK ht ?_)
 simp only[VR]
 exact⟨caps.toList.map a.eval,by congr 1;apply Array.ext';simp,hv⟩
theorem HK(hE:EnvTy P E)(hc:Core c σ a.tmps w M ν){s d:TypeId}{x:Operand}(ho:o.op= .convert s d x){K:fk α}{τ:Ty}{k:IntKind}(hs:E.ty s=some τ)(hd:E.ty d=some (.int k))
  (h:p6 (σ.ρ x) (fun _ n=>K (.val (.int k) (W k n)) [] [])=some r) (hn:dG c σ a o w M ν K r next):o.wp P a w next Q:=by
 obtain⟨k',n,hx,h⟩:=ji h
 have hv:=hc.ev x
 rw[hx]at hv
 refine aJ (ym ho (hE.ty s τ hs).isSome (hE.ty d _ hd).int hv.int) (hn _ _ _ _ _ M ν h (.refl hc.mem) ?_)
 rw[wV];exact .mkInt k _
end VM
end
section
namespace VM
open Go
variable{P:Program}{E:Env}{o:Oper}{a:Act}{w:World}{M:Nat→Prop}{ν:Nat→Value}{σ:St}{c:Ctx}{α:Type}{r:α}{next:Act→World→Prop}{Q:Exit→Act→World→Prop}
theorem KD{b:BinOp}{k k':IntKind}{x y:Int}{t:TypeId}{K:aV→Option α}(h:P7 b k x y K=some r):
  ∃z,K (.val (.int k) z)=some r∧(binOp b t (.int k x) (.int k' y)).run P w= .ok (.int k z) w:=by
 unfold P7 at h
 split at h
 ·obtain⟨h0,h⟩:=iK h
  rw[mc]at h0
  have h0: ¬y<0:=by simpa using h0
  refine⟨_,h,?_⟩
  rw[wV,Mr]
  simp[binOp,Op.shift,h0]
 ·obtain⟨h0,h⟩:=iK h
  rw[mc]at h0
  have h0: ¬y<0:=by simpa using h0
  refine⟨_,h,?_⟩
  rw[HD]
  simp[binOp,Op.shift,h0]
 ·cases h
theorem Ci{b:BinOp}{k:IntKind}{x y:Int}{t:TypeId}{K:aV→Option α}(h:oK b k x y K=some r):
  ∃v u,K v=some r∧(binOp b t (.int k x) (.int k y)).run P w= .ok u w∧ ∀H,VR w M H ν v u:=by
 unfold oK at h
 split at h
 ·exact⟨_,_,h,by simp[binOp,Op.intArith,wV],fun H=> .mkInt _ _⟩
 ·exact⟨_,_,h,by simp[binOp,Op.intArith,wV],fun H=> .mkInt _ _⟩
 ·exact⟨_,_,h,by simp[binOp,Op.intArith,wV],fun H=> .mkInt _ _⟩
 ·obtain⟨h0,h⟩:=iK h
  rw[fI]at h0
  have h0: ¬y=0:=by simpa using h0
  exact⟨_,_,h,by simp[binOp,Op.intDiv,wV,B3,h0],fun H=> .mkInt _ _⟩
 ·obtain⟨h0,h⟩:=iK h
  rw[fI]at h0
  have h0: ¬y=0:=by simpa using h0
  exact⟨_,_,h,by simp[binOp,Op.intDiv,Mq,h0],fun H=> .mkInt _ _⟩
 ·exact⟨_,_,h,by simp[binOp,Op.intBits,oJ],fun H=> .mkInt _ _⟩
 ·exact⟨_,_,h,by simp[binOp,Op.intBits,oJ],fun H=> .mkInt _ _⟩
 ·exact⟨_,_,h,by simp[binOp,Op.intBits,oJ],fun H=> .mkInt _ _⟩
 ·exact⟨_,_,h,by simp[binOp,Op.intBits,oJ],fun H=> .mkInt _ _⟩
 ·exact⟨_,.bool (decide (x=y)),h,by simp[binOp,Op.intCmp];rfl,fun H=>by rw[fI];exact .oN _⟩
 ·exact⟨_,.bool (!decide (x=y)),h,by simp[binOp,Op.intCmp];rfl,fun H=>by rw[fI];exact .oN _⟩
 ·exact⟨_,_,h,by simp[binOp,Op.intCmp,mc],fun H=> .oN _⟩
 ·exact⟨_,_,h,by simp[binOp,Op.intCmp,kU],fun H=> .oN _⟩
 ·exact⟨_,_,h,by simp[binOp,Op.intCmp,mc],fun H=> .oN _⟩
 ·exact⟨_,_,h,by simp[binOp,Op.intCmp,kU],fun H=> .oN _⟩
 ·cases h
theorem KE{t:Option Ty}{op:BinOp}{τ:Ty}{x:τ.den}{υ:Ty}{y:υ.den}{K:aV→Option α}(h:yh t op τ x υ y K=some r):
  (∃(k k':IntKind) (m n:Int),aV.val τ x= .val (.int k) m∧aV.val υ y= .val (.int k') n∧(cond (P8 op) (P7 op k m n K) (if k=k' then oK op k m n K else none))=some r)∨
  (∃z:τ.den,aV.val υ y= .val τ z∧t=some τ∧τ.comparable=true∧((op= .eql∧K (.val .bool (kV τ x z))=some r)∨(op= .neq∧K (.val .bool (!kV τ x z))=some r))):=by
 unfold yh at h
 split at h
 ·exact .inl ⟨_,_,_,_,rfl,rfl,h⟩
 ·right
  split at h
  ·cases h
  ·obtain⟨e,h1⟩:=dA h
   clear h
   subst e
   obtain⟨hc,h⟩:=bx h1
   clear h1
   split at h
   ·obtain⟨e,h1⟩:=aX h
    subst e
    exact⟨_,rfl,rfl,hc,.inl ⟨rfl,h1⟩⟩
   ·obtain⟨e,h1⟩:=aX h
    subst e
    exact⟨_,rfl,rfl,hc,.inr ⟨rfl,h1⟩⟩
   ·cases h
theorem vX{t:TypeId}(hu:P.underlying t=some .bool)(x y:Bool)(w:World):(Op.equal t (.bool x) (.bool y)).run P w= .ok (x==y) w:=by
 unfold Op.equal
 obtain⟨n,hn⟩: ∃n,Op.maxDepth=n+1:=⟨9999,rfl⟩
 rw[hn]
 simp[Op.equalIn,run_underlying hu]
theorem run_eql_bool{t:TypeId}(hu:P.underlying t=some .bool)(x y:Bool):(binOp .eql t (.bool x) (.bool y)).run P w= .ok (.bool (x==y)) w:=by
 simp[binOp,vX hu]
theorem run_neq_bool{t:TypeId}(hu:P.underlying t=some .bool)(x y:Bool):(binOp .neq t (.bool x) (.bool y)).run P w= .ok (.bool (!(x==y))) w:=by
 simp[binOp,vX hu]
theorem ac2(x y:ByteArray):(x.toList==y.toList)=decide (x.toList=y.toList):=by
 rw[Bool.eq_iff_iff];simp
theorem Eb{t:TypeId}(x y:ByteArray):(binOp .eql t (.string x) (.string y)).run P w= .ok (.bool (decide (x.toList=y.toList))) w:=by
 simp[binOp,Op.stringOp,ac2]
theorem Ec{t:TypeId}(x y:ByteArray):(binOp .neq t (.string x) (.string y)).run P w= .ok (.bool (!decide (x.toList=y.toList))) w:=by
 simp[binOp,Op.stringOp,ac2]
theorem MG(hE:EnvTy P E)(hc:Core c σ a.tmps w M ν){b:BinOp}{t t':TypeId}{x y:Operand}(ho:o.op= .binOp b t x y t'){K:fk α}
  (h:DS (σ.ρ x) (fun τ x=>DS (σ.ρ y) fun υ y=>yh (E.ty t) b τ x υ y fun v=>K v [] [])=some r) (hn:dG c σ a o w M ν K r next):o.wp P a w next Q:=by
 have hx:=hc.ev x
 have hy:=hc.ev y
 unfold DS at h
 split at h
 ·rename_i τ x' XV
  split at h
  ·rename_i υ y' hye
   rw[XV]at hx;rw[hye]at hy
   rcases KE h with⟨k,k',m,n,e1,e2,h1⟩|⟨z,e2,ht,hcm,h1⟩
   ·rw[e1]at hx;rw[e2]at hy
    have hx:=hx.int
    have hy:=hy.int
    cases hs:P8 b
    ·rw[hs]at h1
     replace h1:(if k=k' then oK b k m n (fun v=>K v [] [])else none)=some r:=h1
     split at h1
     ·rename_i hk;subst hk
      obtain⟨v,u,hK,ct,hVR⟩:=Ci (P:=P) (w:=w) (M:=M) (ν:=ν) (t:=t) h1
      exact aJ (lz ho (by rw[hx,hy];exact kY w) (by rw[hx,hy];exact ct)) (hn _ [] [] _ _ _ _ hK (.refl hc.mem) (hVR _))
     ·cases h1
    ·rw[hs]at h1
     replace h1:P7 b k m n (fun v=>K v [] [])=some r:=h1
     obtain⟨z,hK,ct⟩:=KD (P:=P) (w:=w) (k':=k') (t:=t) h1
     exact aJ (lz ho (by rw[hx,hy];exact kY w) (by rw[hx,hy];exact ct)) (hn _ [] [] _ _ _ _ hK (.refl hc.mem) (.mkInt _ _))
   ·rw[e2]at hy
    have key:(eqGuard b t x y (a.eval x) (a.eval y)).run P w= .ok () w∧(binOp .eql t (a.eval x) (a.eval y)).run P w= .ok (.bool (kV τ x' z)) w∧(binOp .neq t (a.eval x) (a.eval y)).run P w= .ok (.bool (!kV τ x' z)) w:=by
     by_cases D2:τ.isAgg=true
     ·simp only[VR]at hx hy
      exact hE.eq t τ ht hcm D2 w M _ _ _ _ b x y hx hy
     ·have hl:=hE.ty t τ ht
      cases τ with
      |int k=>
       rw[hx.int,hy.int]
       refine⟨kY w,?_,?_⟩
       ·simp[binOp,Op.intCmp,kV,fI];rfl
       ·simp[binOp,Op.intCmp,kV,fI];rfl
      |bool=>rw[hx.bool,hy.bool];exact⟨u7 w,run_eql_bool hl.bool _ _,run_neq_bool hl.bool _ _⟩
      |str=>rw[hx.str,hy.str];exact⟨w4 w,by rw[Eb];simp[kV,yg],by rw[Ec];simp[kV,yg]⟩
      |slice e=>simp[Ty.comparable]at hcm
      |unit=>simp[Ty.isAgg]at D2
      |pair _ _=>simp[Ty.isAgg]at D2
      |arr _ _=>simp[Ty.isAgg]at D2
    obtain⟨hg,h2,h3⟩:=key
    rcases h1 with⟨rfl,hK⟩|⟨rfl,hK⟩
    ·exact aJ (lz ho hg h2) (hn _ [] [] _ _ _ _ hK (.refl hc.mem) (.oN _))
    ·exact aJ (lz ho hg h3) (hn _ [] [] _ _ _ _ hK (.refl hc.mem) (.oN _))
  ·cases h
 ·cases h
theorem Qj(hc:Core c σ a.tmps w M ν){u:UnOp}{t:TypeId}{x:Operand}(ho:o.op= .unOp u t x){K:fk α}
  (h:Kt u (σ.ρ x) (fun v=>K v [] [])=some r) (hn:dG c σ a o w M ν K r next):o.wp P a w next Q:=by
 have hx:=hc.ev x
 unfold Kt at h
 split at h
 ·rename_i k n XV
  rw[XV]at hx
  refine aJ (qf ho (v:= .int k (k.wrap (0-n))) ?_) (hn _ [] [] _ _ _ _ h (.refl hc.mem) (by rw[wV];exact .mkInt _ _))
  rw[hx.int];simp[Op.unary,Op.intArith]
 ·rename_i k n XV
  rw[XV]at hx
  refine aJ (qf ho (v:= .int k (iV .xor k (if k.signed then-1 else k.max) n)) ?_) (hn _ [] [] _ _ _ _ h (.refl hc.mem) (.mkInt _ _))
  rw[hx.int,oJ];simp[Op.unary,Op.intBits]
 ·rename_i b XV
  rw[XV]at hx
  refine aJ (qf ho (v:= .bool (!b)) ?_) (hn _ [] [] _ _ _ _ h (.refl hc.mem) (.oN _))
  rw[hx.bool];simp[Op.unary]
 ·cases h
end VM
end
section
namespace VM
open Go
variable{P:Program}{E:Env}{o:Oper}{a:Act}{w:World}{M:Nat→Prop}{ν:Nat→Value}{σ:St}{c:Ctx}{α:Type}{r:α}{next:Act→World→Prop}{Q:Exit→Act→World→Prop}
theorem jT{args:Array Operand}{ts:Array TypeId}{t:TypeId}{x:Operand}{n:Nat}(ho:o.op= .call {callee:= .builtin .len,args,argTypes:=ts})(ha:args.toList=[x])(_ht:ts.toList.head?=some t)
  (hl: ∀ty,(Builtin.len_ ts ty #[a.eval x]).run P w= .ok (goInt n) w):(execOp a.eval o).run P w= .ok (.value (.int .i64 n)) w:=by
 obtain⟨cs,hr⟩:=mj (P:=P) (ρ:=a.eval) ho (w:=w)
 rw[hr]
 have:args.map a.eval= #[a.eval x]:=by apply Array.ext';simp[ha]
 rw[this]
 simp[builtin,hl,goInt]
theorem Qk{ts:Array TypeId}{t ty:TypeId}(ht:ts[0]? =some t)(hu:P.underlying t=some .string)(s:ByteArray):(Builtin.len_ ts ty #[.string s]).run P w= .ok (goInt s.size) w:=by
 simp[Builtin.len_,ht,run_underlying hu]
theorem Ql{ts:Array TypeId}{t ty e:TypeId}{n:Nat}(ht:ts[0]? =some t)(hu:P.underlying t=some (.array n e))(v:Value):(Builtin.len_ ts ty #[v]).run P w= .ok (goInt n) w:=by
 simp[Builtin.len_,ht,run_underlying hu]
theorem q9{ts:Array TypeId}{t ty e:TypeId}(ht:ts[0]? =some t)(hu:P.underlying t=some (.slice e))(ad:Option Addr)(n cp:Nat):(Builtin.len_ ts ty #[.slice ad n cp]).run P w= .ok (goInt n) w:=by
 simp[Builtin.len_,ht,run_underlying hu]
theorem ER.MH{e:Ty}{l:List e.den}{v:Value}(h:ER w M v (.own e l)): ∃ad cp,v= .slice ad l.length cp:=by
 simp only[ER]at h
 rcases h with⟨rfl,a,hv⟩|⟨b,cs,t,cap,hv,_⟩
 ·exact⟨a,0,hv⟩
 ·exact⟨_,cap,hv⟩
theorem ER.MI{e:Ty}{l:List e.den}{v:Value}(h:ER w M v (.kg e l)): ∃ad cp,v= .slice ad l.length cp:=by
 simp only[ER]at h
 have h:=h.1
 simp only[Rd,List.cons.injEq,and_true]at h
 obtain⟨a,cap,hv,_⟩:=h
 exact⟨a,cap,hv⟩
theorem XW(hE:EnvTy P E)(hc:Core c σ a.tmps w M ν){args:Array Operand}{ts:Array TypeId}{x:Operand}(ho:o.op= .call {callee:= .builtin .len,args,argTypes:=ts})(ha:args.toList=[x]){K:fk α}{τ:Ty}
  (ht:(ts.toList.head?).bind E.ty=some τ) (h:DT τ (σ.ρ x) σ.H K=some r) (hn:dG c σ a o w M ν K r next):o.wp P a w next Q:=by
 obtain⟨t,nk,PK⟩:=Option.bind_eq_some_iff.1 ht
 have Qm:ts[0]? =some t:=by rw[←nk,←Array.getElem?_toList,List.head?_eq_getElem?]
 have hl:=hE.ty t τ PK
 have hv:=hc.ev x
 unfold DT at h
 split at h
 ·rename_i e e' l hx
  obtain⟨_,hu,_⟩:=hl.slice
  rw[hx]at hv
  simp only[VR]at hv
  have hv:=V.slice.1 hv
  simp only[Rd,List.cons.injEq,and_true]at hv
  obtain⟨ad,cap,hv,_⟩:=hv
  refine aJ (jT ho ha nk (n:=List.length l) fun ty=>by rw[hv];exact q9 Qm hu _ _ _) (hn _ [] [] _ _ _ _ h (.refl hc.mem) (.mkInt _ _))
 ·rename_i n e n' e' l hx
  obtain⟨_,hu,_⟩:=hl.arr
  refine aJ (jT ho ha nk (n:=n) fun ty=>Ql Qm hu _) (hn _ [] [] _ _ _ _ h (.refl hc.mem) (.mkInt _ _))
 ·rename_i s hx
  rw[hx]at hv
  refine aJ (jT ho ha nk (n:=ByteArray.size s) fun ty=>by rw[hv.str];exact Qk Qm hl.str _) (hn _ [] [] _ _ _ _ h (.refl hc.mem) (.mkInt _ _))
 ·rename_i e hx
  obtain⟨_,hu,_⟩:=hl.slice
  rw[hx]at hv
  simp only[VR]at hv
  obtain⟨ad,hv⟩:=hv
  refine aJ (jT ho ha nk (n:=0) fun ty=>by rw[hv];exact q9 Qm hu _ _ _) (hn _ [] [] _ _ _ _ h (.refl hc.mem) (.mkInt _ _))
 ·rename_i e id hx
  obtain⟨_,hu,_⟩:=hl.slice
  rw[hx]at hv
  simp only[VR]at hv
  split at h
  ·rename_i e' l aQ
   obtain⟨ad,cap,hh⟩:=(hc.mem.iJ id _ aQ).MH
   refine aJ (jT ho ha nk (n:=l.length) fun ty=>by rw[hv.2,hh];exact q9 Qm hu _ _ _) (hn _ [id] [] _ _ _ _ h (.refl hc.mem) (.mkInt _ _))
  ·rename_i e' l aQ
   obtain⟨ad,cap,hh⟩:=(hc.mem.iJ id _ aQ).MI
   refine aJ (jT ho ha nk (n:=l.length) fun ty=>by rw[hv.2,hh];exact q9 Qm hu _ _ _) (hn _ [id] [] _ _ _ _ h (.refl hc.mem) (.mkInt _ _))
  ·cases h
 ·cases h
theorem Ed{H:Nat→Option aN}(up:Bool): ∀(xs:List aV) (x:aV) (v:Value) (vs:List Value) (K:aV→Option α),VR w M H ν x v→fC w M H ν xs vs→PH up x xs K=some r→
  ∃x' v',K x'=some r∧(vs.foldlM (if up then Builtin.max2 else Builtin.min2) v).run P w= .ok v' w∧VR w M H ν x' v'
 |[],x,v,[],K,hx,_,h=>⟨x,v,h,by simp,hx⟩
 |[],_,_,_::_,_,_,hs,_=>by simp[fC]at hs
 |_::_,_,_,[],_,_,hs,_=>by simp[fC]at hs
 |y::xs,x,v,u::vs,K,hx,hs,h=>by
  simp only[fC]at hs
  obtain⟨hy,hs⟩:=hs
  unfold PH at h
  obtain⟨k,m,e1,h1⟩:=ji h
  obtain⟨k',n,e2,h2⟩:=ji h1
  clear h h1
  split at h2
  ·rename_i hk
   subst hk
   rw[e1]at hx;rw[e2]at hy
   have hx:=hx.int
   have hy:=hy.int
   obtain⟨x',v',hK,ct,hV⟩:=Ed up xs _ (.int k (cond up (mx m n) (mn m n))) vs K (.mkInt _ _) hs h2
   refine⟨x',v',hK,?_,hV⟩
   rw[List.foldlM_cons,Sem.run_bind]
   have:((if up then Builtin.max2 else Builtin.min2) v u).run P w= .ok (.int k (cond up (mx m n) (mn m n))) w:=by
    rw[hx,hy]
    cases up
    ·simp[Builtin.min2,Wr]
    ·simp[Builtin.max2,Wq]
   rw[this]
   exact ct
  ·cases h2
theorem Wx(hc:Core c σ a.tmps w M ν)(up:Bool){args:Array Operand}{ts:Array TypeId}{x:Operand}{xs:List Operand}(ho:o.op= .call {callee:= .builtin (if up then .max else .min),args,argTypes:=ts})(ha:args.toList=x::xs){K:fk α}
  (h:PH up (σ.ρ x) (xs.map σ.ρ) (fun v=>K v [] [])=some r) (hn:dG c σ a o w M ν K r next):o.wp P a w next Q:=by
 obtain⟨x',v',hK,ct,hV⟩:=Ed (P:=P) up (xs.map σ.ρ) (σ.ρ x) (a.eval x) (xs.map a.eval) _ (hc.ev x) (hc.evs xs) h
 refine aJ ?_ (hn _ [] [] _ _ _ _ hK (.refl hc.mem) hV)
 obtain⟨cs,hr⟩:=mj (P:=P) (ρ:=a.eval) ho (w:=w)
 rw[hr]
 have hm:(args.map a.eval).toList=a.eval x::xs.map a.eval:=by simp[ha]
 cases up
 ·simp only[Bool.false_eq_true,if_false,builtin,Builtin.min_,hm,Sem.run_bind]at ct ⊢
  rw[ct];simp
 ·simp only[if_true,builtin,Builtin.max_,hm,Sem.run_bind]at ct ⊢
  rw[ct];simp
theorem Am{ρ:Operand→Value}{t:TypeId}{x i:Operand}(ho:o.op= .index t x i){k:IntKind}{n:Int}{s:ByteArray}
  (hu:P.underlying t=some .string) (hx:ρ x= .string s) (hi:ρ i= .int k n) (h0:0≤n) (h1:n<(s.size:Int)):
  (execOp ρ o).run P w= .ok (.value (.int .u8 ((s.data.getD n.toNat 0).toNat:Int))) w:=by
 have dz:n.toNat<s.size:=by omega
 have hs:s[n.toNat]? =some (s[n.toNat]'dz):=by simp[dz]
 have he:s[n.toNat]'dz=s.data.getD n.toNat 0:=by
  have qk:n.toNat<s.data.size:=dz
  rw[Array.getD,dif_pos qk];rfl
 simp[execOp,ho,hx,hi,Instr.index,asIntOf,run_underlying hu,h0,hs,he]
theorem MJ(hE:EnvTy P E)(hc:Core c σ a.tmps w M ν){t:TypeId}{x i:Operand}(ho:o.op= .index t x i){K:fk α}{τ:Ty}(ht:E.ty t=some τ)
  (h:qa τ (σ.ρ x) (σ.ρ i) (fun v=>K v [] [])=some r) (hn:dG c σ a o w M ν K r next):o.wp P a w next Q:=by
 unfold qa at h
 obtain⟨k,n,hi,h2⟩:=ji h
 clear h
 have h:=h2
 clear h2
 have Jt:=hc.ev i
 rw[hi]at Jt
 have Jt:=Jt.int
 have hv:=hc.ev x
 have tu:=hE.ty t τ ht
 split at h
 ·rename_i len e υ l hx
  obtain⟨e',Hk,hle⟩:=tu.arr
  obtain⟨e1,h⟩:=aX h
  subst e1
  obtain⟨ky,h⟩:=bx h
  obtain⟨h0,h1⟩:=oO ky
  rw[hx]at hv
  simp only[VR]at hv
  obtain⟨cs,hu,hr⟩:=hv.agg rfl
  have eg:=hr.idx (i:=n.toNat) (by omega)
  refine aJ (Ah ho Hk hle hu Jt h0 h1 eg) (hn _ [] [] _ _ _ _ h (.refl hc.mem) ?_)
  simp only[VR]
  exact V.bE eg
 ·rename_i s hx
  obtain⟨ky,h⟩:=bx h
  obtain⟨h0,h1⟩:=oO ky
  rw[hx]at hv
  refine aJ (Am ho tu.str hv.str Jt h0 h1) (hn _ [] [] _ _ _ _ h (.refl hc.mem) (.mkInt _ _))
 ·cases h
theorem kj(τ:Ty):τ.bZ.length=τ.size:=(Rd.zero default (fun _=>False) τ).length
theorem w8{z:Array Value}{n i s:Nat}(hz:z.size=s)(hi:i*s+s≤n):((madeCells z n).toList.drop (i*s)).take s=z.toList:=by
 apply List.ext_getElem?
 intro j
 rw[List.getElem?_take]
 split
 ·rename_i hj
  rw[List.getElem?_drop,Array.getElem?_toList,Array.getElem?_toList]
  simp only[madeCells,Array.getElem?_map]
  rw[Array.getElem?_range,if_pos (by omega)]
  simp only[Option.map_some]
  have:(i*s+j)%z.size=j:=by rw[hz,Nat.mul_comm,Nat.mul_add_mod,Nat.mod_eq_of_lt hj]
  rw[this,Array.getElem?_eq_getElem (by omega),getElem!_pos z j (by omega)]
 ·rename_i hj
  rw[Array.getElem?_toList,Array.getElem?_eq_none (by omega)]
theorem mm.made(w:World)(M:Nat→Prop)(e:Ty){n l:Nat}(h:l*e.size≤n):mm w M e (madeCells (bE e e.bZ).cells n).toList (List.replicate l e.zero):=by
 intro i hi
 rw[List.length_replicate]at hi
 have:=cO (s:=e.size) hi
 rw[w8 (by rw[←Array.length_toList,ej,kj]) (by omega),ej,List.getElem_replicate]
 exact Rd.zero w M e
theorem ve{ρ:Operand→Value}{t:TypeId}{x y:Operand}(ho:o.op= .makeSlice t x y){v:Value}{w':World}(h:(Instr.makeSlice t (ρ x) (ρ y)).run P w= .ok v w'):(execOp ρ o).run P w= .ok (.value v) w':=by
 simp[execOp,ho,h]
theorem Cj(hE:EnvTy P E)(hc:Core c σ a.tmps w M ν){t:TypeId}{x y:Operand}(ho:o.op= .makeSlice t x y){K:fk α}{e:Ty}(ht:E.ty t=some (.slice e)){id:Nat}
  (h:p6 (σ.ρ x) (fun _ l=>p6 (σ.ρ y) fun _ c=>cond (dS l c)
   (mf σ.H id (.own e []) (K (.ref id) [id] [(id,some (.own e (List.replicate l.toNat e.zero)))])) none)=some r) (hn:dG c σ a o w M ν K r next):o.wp P a w next Q:=by
 obtain⟨k,l,hx,h1⟩:=ji h
 obtain⟨k',n,hy,h2⟩:=ji h1
 clear h h1
 obtain⟨hk,h⟩:=bx h2
 obtain⟨aQ,h⟩:=g9 h
 rw[AS]at hk
 obtain⟨h0,h1,h3⟩:=of_decide_eq_true hk
 simp only[s8]at h3
 obtain⟨e',hu,hle⟩:=(hE.ty t _ ht).slice
 obtain⟨i,hi,hs,hz,hb⟩:=hle.base
 have Ck:=hc.ev x
 have w6:=hc.ev y
 rw[hx]at Ck;rw[hy]at w6
 have XX:(i.bytes:Int)*n≤281474976710656:=by
  have h4:(i.bytes:Int)≤2048:=by omega
  have:(i.bytes:Int)*n≤2048*n:=Int.mul_le_mul_of_nonneg_right h4 (by omega)
  omega
 have ct:=run_make (P:=P) w t e' i _ hu hi hz k k' l n h0 h1 XX (by omega)
 have hlen:(List.replicate l.toNat e.zero).length=l.toNat:=List.length_replicate
 have eL:=Tr.row hc.mem aQ e' (e:=e) (cs:=madeCells (bE e e.bZ).cells (n.toNat*i.size)) (l:=List.replicate l.toNat e.zero) (cap:=n.toNat) (by rw[hlen];omega) (by simp[maxLen];omega)
  (by rw[size_madeCells,hs]) (mm.made w M e (Nat.mul_le_mul (by omega) (by omega)))
 refine aJ (ve ho (by rw[Ck.int,w6.int];exact ct)) (hn _ _ _ _ _ _ _ h eL ?_)
 simp only[VR]
 exact⟨by show bh σ.H id _ id≠none;rw[ak];simp,by simp[cg]⟩
end VM
end
