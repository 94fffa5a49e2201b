/- A part of the proof of AwardBest of layer 25: a machine that reads a function of the program as an equation between values. -/
import Derived.Test.YtocmlaipoebfeaaGreatVm1
set_option linter.all false
section
namespace VM
open Go
variable{P:Program}{E:Env}{o:Oper}{a:Act}{w:World}{M:Nat→Prop}{ν:Nat→Value}{σ:St}{c:Ctx}{α:Type}{r:α}{next:Act→World→Prop}{Q:Exit→Act→World→Prop}
theorem aO{v:Value}{w':World}(h:(execOp a.eval o).run P w= .ok (.value v) w')(hn:next (a.put o.dst v) w'):o.wp P a w next Q:=by
 unfold Oper.wp Oper.upon;rw[h];exact hn
theorem lZ{w':World}(h:(execOp a.eval o).run P w= .ok .skip w')(hn:next (a.put o.dst undef) w'):o.wp P a w next Q:=by
 unfold Oper.wp Oper.upon;rw[h];exact hn
def dB(c:Ctx)(σ:St)(a:Act)(o:Oper)(w:World)(M:Nat→Prop)(ν:Nat→Value)(K:fa α)(r:α)(next:Act→World→Prop):Prop:=
 ∀v rd ups v' w' M' ν',K v rd ups=some r→Tr c σ.H w M ν (bP σ.H ups) w' M' ν'→VR w' M' (bP σ.H ups) ν' v v'→next (a.put o.dst v') w'
theorem Core.ev(h:Core c σ a.tmps w M ν)(x:Operand):VR w M σ.H ν (σ.ρ x) (a.eval x):=h.op a.defers x
theorem iQ{x:aW}{k:IntKind→Int→Option α}(h:pV x k=some r): ∃(i:IntKind) (n:Int),x= .val (.int i) n∧k i n=some r:=by
 unfold pV at h
 split at h
 ·exact⟨_,_,rfl,h⟩
 ·cases h
theorem VR.int{H:Nat→Option aR}{k:IntKind}{n:Int}{v:Value}(h:VR w M H ν (.val (.int k) n) v):v= .int k n:=by
 simp only[VR,V,Ty.isAgg,Bool.false_eq_true,if_false,Rd,List.cons.injEq,and_true]at h;exact h
theorem VR.bool{H:Nat→Option aR}{b:Bool}{v:Value}(h:VR w M H ν (.val .bool b) v):v= .bool b:=by
 simp only[VR,V,Ty.isAgg,Bool.false_eq_true,if_false,Rd,List.cons.injEq,and_true]at h;exact h
theorem VR.str{H:Nat→Option aR}{b:ByteArray}{v:Value}(h:VR w M H ν (.val .str b) v):v= .string b:=by
 simp only[VR,V,Ty.isAgg,Bool.false_eq_true,if_false,Rd,List.cons.injEq,and_true]at h;exact h
theorem VR.mkInt{H:Nat→Option aR}(k:IntKind)(n:Int):VR w M H ν (.val (.int k) n) (.int k n):=by simp[VR,V,Ty.isAgg,Rd]
theorem VR.oE{H:Nat→Option aR}(b:Bool):VR w M H ν (.val .bool b) (.bool b):=by simp[VR,V,Ty.isAgg,Rd]
theorem VR.mkStr{H:Nat→Option aR}(b:ByteArray):VR w M H ν (.val .str b) (.string b):=by simp[VR,V,Ty.isAgg,Rd]
theorem Iq(hc:Core c σ a.tmps w M ν){x:Operand}(ho:o.op= .move x∨o.op= .assign x){K:fa α}(h:K (σ.ρ x) [] []=some r)(hn:dB c σ a o w M ν K r next):o.wp P a w next Q:=by
 have hr:(execOp a.eval o).run P w= .ok (.value (a.eval x)) w:=by
  rcases ho with ho|ho
  ·simp[execOp,ho]
  ·simp[execOp,ho]
 exact aO hr (hn _ _ _ _ _ _ _ h (.refl hc.mem) (hc.ev x))
theorem Ps(hc:Core c σ a.tmps w M ν){x y z:Operand}(ho:o.op= .pick x y z){K:fa α}{t:Bool}(hx:σ.ρ x= .val .bool t)(h:cond t (K (σ.ρ y) [] []) (K (σ.ρ z) [] [])=some r)
  (hn:dB c σ a o w M ν K r next):o.wp P a w next Q:=by
 have hv:=hc.ev x
 rw[hx]at hv
 refine aO (C5 ho hv.bool) ?_
 cases t
 ·exact hn _ _ _ _ _ _ _ h (.refl hc.mem) (hc.ev z)
 ·exact hn _ _ _ _ _ _ _ h (.refl hc.mem) (hc.ev y)
theorem gN{H:Nat→Option aR}{id:Nat}{e:aR}{K:Option α}(h:lT H id e K=some r):H id=none∧K=some r:=by
 unfold lT at h
 split at h
 ·rename_i h';exact⟨h',h⟩
 ·cases h
theorem VR.Vq{H:Nat→Option aR}{id:Nat}{τ:Ty}{x:τ.den}{b:Nat}(aS:H id=some (.obj τ x))(hν:ν id= .pointer (some ⟨b,0,none⟩)):VR w M H ν (.eV id []) (.pointer (some ⟨b,0,none⟩)):=by
 simp only[VR]
 exact⟨_,aS,trivial,b,hν,rfl⟩
theorem VR.LA{H:Nat→Option aR}{id:Nat}{τ:Ty}{x:τ.den}{q:List Step}{j b:Nat}(aS:H id=some (.dE τ x q j))(hν:ν id= .pointer (some ⟨b,0,none⟩)):VR w M H ν (.eV id []) (.pointer (some ⟨b,0,none⟩)):=by
 simp only[VR]
 exact⟨_,aS,trivial,b,hν,rfl⟩
theorem eg(τ:Ty):(bE τ τ.bW).cells.toList=τ.bW:=zt (Rd.zero default (fun _=>False) τ)
theorem C6: ∀{τ:Ty} {n:Nat} {a:Ty},Be τ n=some a→ ∃l m,τ.bW=l++(a.bW++m)∧l.length=mV τ n:=by
 intro τ
 induction τ with
 |pair a b _ Ly=>
  intro n c h
  cases n with
  |zero=>cases h;exact⟨[],b.bW,rfl,rfl⟩
  |succ n=>
   obtain⟨l,m,h1,h2⟩:=Ly (n:=n) (a:=c) h
   refine⟨a.bW++l,m,by simp only[Ty.bW];rw[h1,List.append_assoc],?_⟩
   rw[List.length_append,h2,(Rd.zero default (fun _=>False) a).length];rfl
 |_=>intro n c h;simp[Be]at h
theorem s4: ∀{p:List Step} {τ υ:Ty},dY p τ υ=true→ ∃l m,τ.bW=l++(υ.bW++m)∧l.length=bA p τ
 |[],τ,υ,h=>by
  have h:=of_decide_eq_true h
  subst h
  exact⟨[],[],by simp,rfl⟩
 | .gg n::p,τ,υ,h=>by
  unfold dY at h
  split at h
  ·rename_i a ha
   obtain⟨l,m,h1,h2⟩:=C6 ha
   obtain⟨l',m',h3,h4⟩:=s4 h
   obtain⟨_,_,hf⟩:=n9 ha τ.zero
   have:=hf.eq.1
   subst this
   refine⟨l++l',m'++m,by rw[h1,h3];simp,?_⟩
   rw[List.length_append,h2,h4];rfl
  ·cases h
 | .idx _::_,_,_,h=>by simp[dY]at h
theorem z7{p:List Step}{τ e:Ty}(h:dY p τ (.slice e)=true):τ.bW[bA p τ]? =some (.slice none 0 0):=by
 obtain⟨l,m,h1,h2⟩:=s4 h
 rw[h1,List.getElem?_append_right (by omega),h2,Nat.sub_self];rfl
theorem bz{b:Bool}{K:Option α}(h:cond b K none=some r):b=true∧K=some r:=by
 cases b
 ·cases h
 ·exact⟨rfl,h⟩
theorem Ir{τ:Ty}{q:List Step}{e:Ty}(h:lkT E τ=some (q,e)):dY q τ (.slice e)=true:=by
 unfold lkT at h
 split at h
 ·rename_i υ q' e' _ _
  cases hd:decide (υ=τ)<;>rw[hd]at h
  ·cases h
  ·simp only[cond_true]at h
   cases hp:dY q' τ (.slice e')<;>rw[hp]at h
   ·cases h
   ·cases h;exact hp
 ·cases h
theorem oh{τ:Ty}{id:Nat}{q:List Step}{e:Ty}(h:Bh E τ id=some (q,e)):dY q τ (.slice e)=true:=by
 unfold Bh at h
 split at h
 ·exact Ir (bz h).2
 ·cases h
theorem xq{H:Nat→Option aR}{id:Nat}{τ:Ty}{x:τ.den}{q:List Step}{e:Ty}{K:fa α}(h:wc H id τ x q e K=some r):H id=none∧H (id+1)=none∧K (.eV id []) [id,id+1] [(id,some (.dE τ x q (id+1))),(id+1,some (.own e []))]=some r:=by
 unfold wc at h
 obtain⟨h1,h⟩:=gN h
 obtain⟨h2,h⟩:=gN h
 exact⟨h1,h2,h⟩
theorem JC{H:Nat→Option aR}{i j:Nat}{u v:Option aR}(h:i≠j):bm (bm H i u) j v=bm (bm H j v) i u:=by
 funext k
 by_cases hi:k=i
 ·subst hi;rw[al _ _ h,ak,ak]
 ·by_cases hj:k=j
  ·subst hj;rw[ak,al _ _ hi,ak]
  ·rw[al _ _ hj,al _ _ hi,al _ _ hi,al _ _ hj]
theorem rY{H:Nat→Option aR}{i:Nat}{u v:Option aR}:bm (bm H i u) i v=bm H i v:=by
 funext k
 by_cases hi:k=i
 ·subst hi;rw[ak,ak]
 ·rw[al _ _ hi,al _ _ hi,al _ _ hi]
theorem Tr.LB{H:Nat→Option aR}(h:Mem c H w M ν){id k:Nat}(hk:H k=none){τ:Ty}{x:τ.den}(aS:H id=some (.obj τ x)){b:Nat}{cs:Array Value}{t:TypeId}(hb:ν id= .pointer (some ⟨b,0,none⟩))(hg:w.heap[b]? =some (.cells cs t (0,0)))
  {q:List Step} {e:Ty} (hq:dY q τ (.slice e)=true) {ad:Option Addr} (hz:cs.toList[bA q τ]? =some (.slice ad 0 0)):
  Tr c H w M ν (bP H [(id,some (.dE τ x q k)),(k,some (.own e []))]) w M (b9 ν k (.slice ad 0 0)):=by
 have gG:k≠id:=fun e=>by rw[e,aS]at hk;cases hk
 have h2:=Tr.nothing h hk e ad
 have hd2:bm H k (some (.own e [])) id=some (.obj τ x):=by rw[al _ _ (Ne.symm gG)];exact aS
 have hν:b9 ν k (.slice ad 0 0) id= .pointer (some ⟨b,0,none⟩):=by unfold b9;rw[if_neg (Ne.symm gG)];exact hb
 have hν1:b9 ν k (.slice ad 0 0) k= .slice ad 0 0:=by simp[b9]
 have he:=h2.mem.im id _ hd2
 simp only[ER]at he
 obtain⟨b',cs',t',di,hg',hM,gB⟩:=he
 rw[hν]at di;cases di
 rw[hg]at hg';cases hg'
 have h3:=Tr.Jz h2.mem hd2 trivial (e':= .dE τ x q k) trivial rfl (fun _ _=>by simp) (by
   rw[hν];simp only[ER]
   exact⟨_,cs,t,cs.toList,.slice ad 0 0,rfl,hg,hM,gB,(C0 hz).symm,rfl,e,hq⟩)
  (fun τ' x' p' j' hl=>by
   cases hl
   refine⟨by rw[ak];simp,_,hν,?_⟩
   rw[hν1,cell_of hg,←Array.getElem?_toList];exact hz)
 rw[JC (i:=k) (j:=id) gG]at h3
 exact h2.trans h3
theorem Tr.wc{H:Nat→Option aR}(h:Mem c H w M ν){id:Nat}(aS:H id=none)(kK:H (id+1)=none)(t:TypeId){τ:Ty}{cs:Array Value}{x:τ.den}(hr:Rd w M τ cs.toList x){q:List Step}{e:Ty}(hq:dY q τ (.slice e)=true){ad:Option Addr}
  (hz:cs.toList[bA q τ]? =some (.slice ad 0 0)):
  ∃M' ν',Tr c H w M ν (bP H [(id,some (.dE τ x q (id+1))),(id+1,some (.own e []))]) (w.alloc (.cells cs t)) M' ν'∧ν' id= .pointer (some ⟨w.heap.size,0,none⟩):=by
 have h1:=Tr.var h aS t hr
 have h2:=Tr.LB h1.mem (id:=id) (k:=id+1) (by rw[al _ _ (by omega)];exact kK) (ak _ _ _) (by simp[b9]) (xl w _) hq hz
 have e1:bP (bm H id (some (.obj τ x))) [(id,some (.dE τ x q (id+1))),(id+1,some (.own e []))]=bP H [(id,some (.dE τ x q (id+1))),(id+1,some (.own e []))]:=by
  show bm (bm (bm H id _) id _) (id+1) _=bm (bm H id _) (id+1) _
  rw[rY]
 rw[e1]at h2
 exact⟨_,_,h1.trans h2,by simp[b9]⟩
theorem LC(hE:EnvTy P E)(hc:Core c σ a.tmps w M ν){t:TypeId}(ho:o.op= .alloc t){K:fa α}{τ:Ty}(ht:E.ty t=some τ){id:Nat}
  (h:(match Bh E τ id with
   |some (q,e)=>wc σ.H id τ τ.zero q e K
   |none=>lT σ.H id (.obj τ τ.zero) (K (.eV id []) [id] [(id,some (.obj τ τ.zero))]))=some r) (hn:dB c σ a o w M ν K r next):o.wp P a w next Q:=by
 obtain⟨i,hi,hs,hz,_⟩:=(hE.ty t τ ht).base
 have hr:Rd w M τ (bE τ τ.bW).cells.toList τ.zero:=by rw[eg];exact Rd.zero w M τ
 split at h
 ·rename_i q e oc
  obtain⟨aS,kK,h⟩:=xq h
  obtain⟨M',ν',eD,hν⟩:=Tr.wc hc.mem aS kK t hr (oh oc) (by rw[eg];exact z7 (oh oc))
  refine aO (sZ ho hi hz w) (hn _ _ _ _ _ M' ν' h eD ?_)
  exact VR.LA (by show bm _ (id+1) _ id=_;rw[al _ _ (by omega),ak]) hν
 ·obtain⟨aS,h⟩:=gN h
  refine aO (sZ ho hi hz w) (hn _ _ _ _ _ _ _ h (Tr.var hc.mem aS t hr) (VR.Vq (ak _ _ _) (by simp[b9])))
theorem Is(hE:EnvTy P E)(hc:Core c σ a.tmps w M ν){t:TypeId}{x:Operand}(ho:o.op= .box t x){K:fa α}{τ:Ty}{id:Nat}
  (h:g6 true (σ.ρ x) σ.H τ (fun y rd ups=>lT σ.H id (.obj τ y) (K (.eV id []) (id::rd) (ups++[(id,some (.obj τ y))])))=some r) (hn:dB c σ a o w M ν K r next):o.wp P a w next Q:=by
 obtain⟨y,rd,ups,M',h,eD,hV,hz,_⟩:=jw (.refl _) hc.mem (hc.ev x) h
 obtain⟨aS,h⟩:=gN h
 have WA:bP σ.H ups id=none:=hz.none aS
 have p6:=eD.trans (Tr.var eD.mem WA t hV.cells)
 refine aO (xm ho w) (hn _ _ _ _ _ (fun b=>M' b∨b=w.heap.size) (b9 ν id (.pointer (some ⟨w.heap.size,0,none⟩))) h ?_ ?_)
 ·rw[dN];exact p6
 ·rw[dN];exact VR.Vq (ak _ _ _) (by simp[b9])
theorem WB(hE:EnvTy P E)(hc:Core c σ a.tmps w M ν){t:TypeId}{x:Operand}(ho:o.op= .box t x){K:fa α}{τ:Ty}{id:Nat}
  (h:(match Bh E τ id,σ.ρ x with
   |some ([.gg m],e),.Bf υ y n=>cond (Nat.beq m n) (bU υ τ y fun y=>wc σ.H id τ y [.gg m] e K) (g6 true (σ.ρ x) σ.H τ (fun y rd ups=>lT σ.H id (.obj τ y) (K (.eV id []) (id::rd) (ups++[(id,some (.obj τ y))]))))
   |_,_=>g6 true (σ.ρ x) σ.H τ (fun y rd ups=>lT σ.H id (.obj τ y) (K (.eV id []) (id::rd) (ups++[(id,some (.obj τ y))]))))=some r) (hn:dB c σ a o w M ν K r next):o.wp P a w next Q:=by
 split at h
 ·rename_i m e υ y n oc hx
  cases hb:Nat.beq m n
  ·rw[hb]at h
   exact Is hE hc ho h hn
  ·rw[hb]at h
   have xr:=Nat.eq_of_beq_eq_true hb
   subst xr
   simp only[cond_true]at h
   obtain⟨e1,h⟩:=aY h
   subst e1
   obtain⟨aS,kK,h⟩:=xq h
   have hv:=hc.ev x
   rw[hx]at hv
   simp only[VR]at hv
   obtain⟨hV,cs,ad,hva,hz⟩:=hv
   have Bp:(a.eval x).cells.toList=cs.toList:=by rw[hva];rfl
   obtain⟨M',ν',eD,hν⟩:=Tr.wc hc.mem aS kK t hV.cells (oh oc) (ad:=ad) (by rw[Bp];simpa [bA]using hz)
   refine aO (xm ho w) (hn _ _ _ _ _ M' ν' h eD ?_)
   exact VR.LA (by show bm _ (id+1) _ id=_;rw[al _ _ (by omega),ak]) hν
 ·exact Is hE hc ho h hn
theorem oF{i:Int}{n:Nat}(h:aL i n=true):0≤i∧i<(n:Int):=by rw[Lu]at h;simpa using h
theorem iq{b:Bool}{K:Option α}(h:cond b none K=some r):b=false∧K=some r:=by
 cases b
 ·exact⟨rfl,h⟩
 ·cases h
theorem vm(hm:Mem c σ.H w M ν){x:aW}{u:Value}(hv:VR w M σ.H ν x u){K:(υ:Ty)→υ.den→List Nat→Option α}(h:gA x σ.H K=some r):
  ∃υ y rd,K υ y rd=some r∧ ∃b off cs,u= .pointer (some ⟨b,off,none⟩)∧At w b off cs∧Rd w M υ cs y:=by
 unfold gA at h
 split at h
 ·simp only[VR]at hv
  obtain⟨b,off,rfl,_,_,cs,ha,hr⟩:=hv
  exact⟨_,_,_,h,b,off,cs,rfl,ha,hr⟩
 ·rename_i id p
  simp only[VR]at hv
  obtain⟨e,he,jk⟩:=hv
  have iD:=hm.im id e he
  rw[he]at h
  cases e with
  |obj τ x=>
   obtain⟨υ,y,o',hp,hK⟩:=fN h
   simp only[AR]at jk
   obtain⟨hi,b,hb,rfl⟩:=jk
   simp only[ER]at iD
   obtain⟨b',cs,t,di,hg,_,hr⟩:=iD
   rw[hb]at di;cases di
   have:=hp.eq.2
   subst this
   exact⟨υ,y,_,hK,b,_,_,rfl,At.of_block hg _ _,hp.rd hi hr⟩
  |own e l=>
   simp only[AR]at jk
   obtain⟨i,q,rfl,zx,hi,b,n,cp,hb,rfl⟩:=jk
   obtain⟨υ,y,o',hp,hK⟩:=fN h
   simp only[ER]at iD
   rcases iD with⟨rfl,_⟩|⟨b',cs,t,cap,di,hg,_,Lj,hl,zm,hs,hr⟩
   ·simp at zx
   ·rw[hb]at di;cases di
    have:=hp.eq.2
    subst this
    have h1:=hr i zx
    rw[←gi l i e.zero zx]at h1
    have h2:=hp.rd hi h1
    have h3:=hp.bound hi
    rw[List.drop_take,List.drop_drop,List.take_take,Nat.min_eq_left (by omega)]at h2
    exact⟨υ,y,_,hK,b,_,_,rfl,At.of_block hg _ _,h2⟩
  |jP e l=>
   simp only[AR]at jk
   obtain⟨i,q,rfl,zx,hi,b,n,cp,hb,rfl⟩:=jk
   obtain⟨υ,y,o',hp,hK⟩:=fN h
   simp only[ER]at iD
   have gB:=iD.1
   simp only[Rd,List.cons.injEq,and_true]at gB
   obtain⟨a0,cap,ha0,_,hr⟩:=gB
   obtain⟨b',off,rfl,_,_,cs,lh,OY⟩:=hr i zx
   rw[hb]at ha0;cases ha0
   have:=hp.eq.2
   subst this
   rw[Nat.zero_add]at lh
   have abu:Rd w M e cs (List.getD l i e.zero):=by rw[gi l i e.zero zx];exact OY
   have h2:=hp.rd hi abu
   have h3:=hp.bound hi
   have Pr:=abu.length
   refine⟨υ,y,_,hK,b,_,_,rfl,?_,h2⟩
   intro j v hj
   rw[List.getElem?_take]at hj
   split at hj
   ·rw[List.getElem?_drop]at hj
    have:=lh _ v hj
    rwa [←Nat.add_assoc]at this
   ·cases hj
  |dE _ _ _ _=>cases h
  |gone=>cases h
 ·cases h
theorem Mem.linked{H:Nat→Option aR}(hm:Mem c H w M ν){id:Nat}{τ:Ty}{x:τ.den}{q:List Step}{j:Nat}(aS:H id=some (.dE τ x q j)):
  ∃b cs t nf e,ν id= .pointer (some ⟨b,0,none⟩)∧w.heap[b]? =some (.cells cs t (0,0))∧M b∧Rd w M τ nf x∧cs.toList=c5 nf (bA q τ) [ν j]∧(ν j).oneCell'=true∧dY q τ (.slice e)=true∧bA q τ<nf.length∧H j≠none:=by
 have iD:=hm.im id _ aS
 simp only[ER]at iD
 obtain⟨b,cs,t,nf,u,hb,hg,hM,hr,Bp,h1,e,hq⟩:=iD
 obtain⟨hj,b',di,It⟩:=hm.dE id _ _ _ _ aS
 rw[hb]at di;cases di
 obtain⟨y,o,hp⟩:=oa hq x
 have dF:bA q τ<nf.length:=by
  have:=hp.bound (gj hq).1
  have h2:=hp.eq.2
  have h3:=hr.length
  have:(Ty.slice e).size=1:=rfl
  omega
 have hu:u=ν j:=by
  rw[cell_of hg,←Array.getElem?_toList,Bp,wW dF]at It
  exact Option.some.inj It
 subst hu
 exact⟨b,cs,t,nf,e,hb,hg,hM,hr,Bp,h1,hq,dF,hj⟩
theorem rZ{H:Nat→Option aR}(hm:Mem c H w M ν){id:Nat}{τ:Ty}{x:τ.den}{q:List Step}{j:Nat}(aS:H id=some (.dE τ x q j)){k:τ.den→e9→Option α}(h:wb j q τ x H k=some r):
  ∃z ups M',k z ups=some r∧Tr c H w M ν (bP H ups) w M' ν∧Fz H (bP H ups)∧((∃e l,H j=some (.jP e l)∧ups=[])∨ ∃e l,H j=some (.own e l)∧ups=[(j,some (.jP e l))])∧ ∃b cs t,ν id= .pointer (some ⟨b,0,none⟩)∧w.heap[b]? =some (.cells cs t (0,0))∧M' b∧Rd w M' τ cs.toList z:=by
 obtain⟨b,cs,t,nf,e0,hb,hg,hM,hr,Bp,h1,hq,dF,hj⟩:=hm.linked aS
 have LD:=(gj hq).1
 unfold wb at h
 split at h
 ·rename_i e l zq
  obtain⟨z,hz,zy,zp,rr⟩:=ka h
  obtain⟨M',eD,hV,hM'⟩:=Tr.freeze hm zq
  refine⟨z,_,M',hz,eD,fun i=> ?_,.inr ⟨e,l,zq,rfl⟩,b,cs,t,hb,hg,?_,?_⟩
  ·by_cases hi:i=j
   ·subst hi;exact .inr ⟨e,l,zq,ak _ _ _⟩
   ·exact .inl (al _ _ hi)
  ·refine(hM' b).2 ⟨hM,fun hjb=> ?_⟩
   have gG:j≠id:=fun e=>by rw[e,aS]at zq;cases zq
   exact hm.um j id _ _ b gG zq trivial aS trivial hjb (by rw[hb];rfl)
  ·rw[Bp]
   exact rr w M' nf [ν j] LD (hr.br eD.br) (V.slice.1 hV)
 ·rename_i e l zq
  obtain⟨z,hz,zy,zp,rr⟩:=ka h
  have iD:=hm.im j _ zq
  simp only[ER]at iD
  refine⟨z,_,M,hz,.refl hm,.refl H,.inl ⟨e,l,zq,rfl⟩,b,cs,t,hb,hg,hM,?_⟩
  rw[Bp]
  exact rr w M nf [ν j] LD hr iD.1
 ·cases h
theorem aaN{τ υ:Ty}{t:TypeId}(hE:EnvTy P E)(ht:E.ty t=some τ)(h:dY ([]:List Step) υ τ=true):υ=τ:=of_decide_eq_true h
theorem Rd.WC{e:Ty}{v:Value}{cs:List Value}{l:List e.den}(h:Rd w M (.slice e) cs l): ∃a n cap,cs=[.slice a n cap]:=by
 simp only[Rd]at h
 obtain⟨a,cap,rfl,_⟩:=h
 exact⟨a,_,cap,rfl⟩
theorem zz{ρ:Operand→Value}{t:TypeId}{x:Operand}(ho:o.op= .load t x){τ:Ty}(h:gh P τ t)(ha:τ.isAgg=false){b off:Nat}{v:Value}(hx:ρ x= .pointer (some ⟨b,off,none⟩))(hc:w.cell? ⟨b,off,none⟩=some v):
  (execOp ρ o).run P w= .ok (.value v) w:=by
 have:(loadVar t ⟨b,off,none⟩).run P w= .ok v w:=by
  simp[loadVar,od h,ha,load,Sem.run,hc]
 simp[execOp,ho,hx,Instr.loadAt,Instr.sureAddr,this]
theorem C7(hE:EnvTy P E)(hc:Core c σ a.tmps w M ν){t:TypeId}{x:Operand}(ho:o.op= .load t x){K:fa α}{τ:Ty}(ht:E.ty t=some τ)
  (h:gA (σ.ρ x) σ.H (fun υ y rd=>bU υ τ y fun z=>K (.val τ z) rd [])=some r) (hn:dB c σ a o w M ν K r next):o.wp P a w next Q:=by
 obtain⟨υ,y,rd,h,b,off,cs,hu,lh,hr⟩:=vm hc.mem (hc.ev x) h
 obtain⟨e,h⟩:=aY h
 subst e
 refine aO (p4 ho (hE.ty t _ ht) hu lh hr) (hn _ _ _ _ _ _ _ h (.refl hc.mem) ?_)
 simp only[VR]
 exact V.bE hr
theorem Pu(hE:EnvTy P E)(hc:Core c σ a.tmps w M ν){t:TypeId}{x:Operand}(ho:o.op= .load t x){K:fa α}{τ:Ty}(ht:E.ty t=some τ)
  (h:pA τ (σ.ρ x) σ.H K=some r) (hn:dB c σ a o w M ν K r next):o.wp P a w next Q:=by
 unfold pA at h
 simp only at h
 split at h
 ·rename_i id p hx
  split at h
  ·rename_i υ z q j aS
   have hv:=hc.ev x
   rw[hx]at hv
   simp only[VR]at hv
   obtain⟨e1,GD,jk⟩:=hv
   rw[aS]at GD;cases GD
   simp only[AR]at jk
   obtain⟨hi,b,hb,hu⟩:=jk
   obtain⟨b',cs,te,nf,e0,di,hg,hM,hr,Bp,h1,hq,dF,hj⟩:=hc.mem.linked aS
   rw[hb]at di;cases di
   cases hp:CP p q
   ·rw[hp]at h
    cases C1:rm p q
    ·
     rw[C1]at h
     simp only[cond_false]at h
     obtain⟨υ',y,o',ru,h⟩:=fN h
     obtain⟨e2,h⟩:=aY h
     subst e2
     have hap:=ru.apart hi hq C1
     have ho':=ru.eq.2
     subst ho'
     have zp:=ru.bound hi
     have hlen:=hr.length
     have gB:Rd w M υ' ((cs.toList.drop (bA p υ)).take υ'.size) y:=by
      rw[Bp,Bm (by simp only[List.length_singleton];omega) (by simp only[List.length_singleton];omega)]
      exact ru.rd hi hr
     refine aO (p4 ho (hE.ty t _ ht) hu (At.of_block hg _ _) gB) (hn _ _ _ _ _ M ν h (.refl hc.mem) ?_)
     simp only[VR]
     exact V.bE gB
    ·
     rw[C1]at h
     simp only[cond_false,cond_true]at h
     obtain⟨z',ups,M',h,eD,_,_,b2,WD,t2,rX,LF,Bq,CG⟩:=rZ hc.mem aS h
     rw[hb]at rX;cases rX
     rw[hg]at LF;cases LF
     obtain⟨υ',y,o',ru,h⟩:=fN h
     obtain⟨e2,h⟩:=aY h
     subst e2
     have ho':=ru.eq.2
     subst ho'
     have gB:=ru.rd hi CG
     refine aO (p4 ho (hE.ty t _ ht) hu (At.of_block hg _ _) gB) (hn _ _ _ _ _ M' ν h eD ?_)
     simp only[VR]
     exact V.bE gB
   ·
    rw[hp]at h
    have:=uy hp
    subst this
    simp only[cond_true]at h
    obtain⟨hpq,hK⟩:=bz h
    have hτ:τ= .slice e0:=(gj hpq).2.symm.trans (gj hq).2
    subst hτ
    have It:w.cell? ⟨b,bA p υ,none⟩=some (ν j):=by rw[cell_of hg,←Array.getElem?_toList,Bp,wW dF]
    refine aO (zz ho (hE.ty t _ ht) rfl hu It) (hn _ _ _ _ _ M ν hK (.refl hc.mem) ?_)
    simp only[VR]
    exact⟨hj,trivial⟩
  ·exact C7 hE hc ho ht h hn
 ·exact C7 hE hc ho ht h hn
end VM
end
section
namespace VM
open Go
variable{P:Program}{E:Env}{o:Oper}{a:Act}{w:World}{M:Nat→Prop}{ν:Nat→Value}{σ:St}{c:Ctx}{α:Type}{r:α}{next:Act→World→Prop}{Q:Exit→Act→World→Prop}
theorem Fz.own{H H1:Nat→Option aR}(h:Fz H H1){i:Nat}{e:Ty}{l:List e.den}(hi:H i=some (.own e l)):H1 i=some (.own e l)∨H1 i=some (.jP e l):=by
 rcases h i with h'|⟨e',l',h1,h2⟩
 ·exact .inl (by rw[h',hi])
 ·rw[hi]at h1;cases h1;exact .inr h2
theorem JD(hE:EnvTy P E)(hc:Core c σ a.tmps w M ν){t:TypeId}{x y:Operand}(ho:o.op= .store t x y){K:fa α}{τ:Ty}(ht:E.ty t=some τ)
  (h:g8 τ (σ.ρ x) (σ.ρ y) σ.H K=some r) (hn:dB c σ a o w M ν K r next):o.wp P a w next Q:=by
 unfold g8 at h
 split at h
 ·rename_i id p hx
  obtain⟨z,rd,ups,M',h,eD,hV,hz,gB⟩:=jw (.refl _) hc.mem (hc.ev y) h
  have hv:=hc.ev x
  rw[hx]at hv
  have WE:=VR.br eD.br eD.goes hv
  have s6:=hE.ty t τ ht
  have C8:=hV.cells.length
  rw[Array.length_toList]at C8
  split at h
  ·rename_i υ x0 aS
   have kK:=hz.obj aS
   obtain⟨x1,hK,zy,zp,rr⟩:=ka h
   simp only[VR]at WE
   obtain⟨e1,GD,jk⟩:=WE
   rw[kK]at GD;cases GD
   simp only[AR]at jk
   obtain⟨hi,b,hb,hu⟩:=jk
   have iD:=eD.mem.im id _ kK
   simp only[ER]at iD
   obtain⟨b',cs,te,di,hg,hM,hr⟩:=iD
   rw[hb]at di;cases di
   have zp:=zp hi
   have Pr:=hr.length
   rw[Array.length_toList]at Pr
   have cr:=iP (P:=P) ho s6 hu hg C8 (by omega) hV.cells.jQ
   rw[Array.length_toList]at cr
   have p6:Tr c (bP σ.H ups) w M' ν (bm (bP σ.H ups) id (some (.obj υ x1))) (w.setRow b (c5 cs.toList (bA p υ) (a.eval y).cells.toList).toArray) M' ν:=by
    refine Tr.write (e':= .obj υ x1) eD.mem kK trivial trivial rfl (by rw[hb];rfl) hg fun Ga hk uB=> ?_
    simp only[ER]
    refine⟨b,_,te,hb,setRow_heap w b cs _ te _ hg,uB,?_⟩
    exact(rr w M' cs.toList _ hi hr hV.cells).br hk
   refine lZ cr ?_
   refine hn _ _ _ _ _ M' ν hK ?_ (by simp[VR])
   rw[dN]
   have:=eD.trans p6
   unfold c5 at this
   rw[Array.length_toList]at this
   exact this
  ·rename_i e l aS
   split at h
   ·rename_i i q h0
    obtain⟨wm,h⟩:=iq h
    have kK:bP σ.H ups id=some (.own e l):=by rw[gB id wm];exact aS
    obtain⟨y1,hK,zy,zp,rr⟩:=ka h
    simp only[VR]at WE
    obtain⟨e1,GD,jk⟩:=WE
    rw[kK]at GD;cases GD
    simp only[AR]at jk
    obtain⟨i',q',hpq,zx,hi,b,n,cp,hb,hu⟩:=jk
    cases hpq
    have iD:=eD.mem.im id _ kK
    simp only[ER]at iD
    rcases iD with⟨rfl,_⟩|⟨b',cs,te,cap,di,hg,hM,Lj,hl,zm,hs,hr⟩
    ·simp at zx
    ·rw[hb]at di;cases di
     have zp:=zp hi
     have ob:=cH (s:=e.size) zx
     have sY:l.length*e.size≤cp*e.size:=Nat.mul_le_mul_right _ hl
     have cr:=iP (P:=P) ho s6 hu hg C8 (by omega) hV.cells.jQ
     rw[Array.length_toList]at cr
     have hri:=hr i zx
     rw[←gi l i e.zero zx]at hri
     have mW:=rr w M' _ _ hi hri hV.cells
     have hch:((cs.toList.drop (i*e.size)).take e.size).length=e.size:=hri.length
     have Pv:c5 cs.toList (i*e.size) (c5 ((cs.toList.drop (i*e.size)).take e.size) (bA q e) (a.eval y).cells.toList)=c5 cs.toList (i*e.size+bA q e) (a.eval y).cells.toList:=by
      have OX:=mW.length
      have e1:cs.toList=cs.toList.take (i*e.size)++(((cs.toList.drop (i*e.size)).take e.size)++cs.toList.drop (i*e.size+e.size)):=by
       rw[←List.drop_drop,List.take_append_drop,List.take_append_drop]
      have dF:(cs.toList.take (i*e.size)).length=i*e.size:=by rw[List.length_take,Array.length_toList];omega
      conv=>rhs;rw[e1]
      rw[show i*e.size+bA q e=(cs.toList.take (i*e.size)).length+bA q e from by rw[dF],qO,sW (by rw[hch,Array.length_toList];omega)]
      generalize c5 ((cs.toList.drop (i*e.size)).take e.size) (bA q e) (a.eval y).cells.toList=m at OX ⊢
      unfold c5
      rw[OX,List.append_assoc]
     have p6:Tr c (bP σ.H ups) w M' ν (bm (bP σ.H ups) id (some (.own e (List.set l i y1)))) (w.setRow b (c5 cs.toList (i*e.size+bA q e) (a.eval y).cells.toList).toArray) M' ν:=by
      refine Tr.write (e':= .own e (List.set l i y1)) eD.mem kK trivial trivial ⟨rfl,by rw[List.length_set]⟩ (by rw[hb];simp[dV];omega) hg fun Ga hk uB=> ?_
      simp only[ER]
      refine .inr ⟨b,_,te,cp,by rw[List.length_set];exact hb,setRow_heap w b cs _ te _ hg,uB,Lj,by rw[List.length_set];exact hl,zm,?_,?_⟩
      ·rw[←Pv,List.size_toArray,dR (by rw[mW.length,Array.length_toList];omega),Array.length_toList];exact hs
      ·have h9:cs.toList.length=cp*e.size:=by rw[Array.length_toList,hs]
       have h10:=lY.set (w:=w) (M:=M') (cs:=cs.toList) (l:=l) hr (by rw[h9];exact sY) zx mW
       rw[Pv]at h10
       exact fun j hj=>(h10 j hj).br hk
     refine lZ cr ?_
     refine hn _ _ _ _ _ M' ν hK ?_ (by simp[VR])
     rw[dN]
     have:=eD.trans p6
     unfold c5 at this
     rw[Array.length_toList]at this
     exact this
   ·cases h
  ·cases h
 ·cases h
theorem Fz.dE{H H1:Nat→Option aR}(h:Fz H H1){i:Nat}{τ:Ty}{x:τ.den}{p:List Step}{j:Nat}(hi:H i=some (.dE τ x p j)):H1 i=some (.dE τ x p j):=by
 rcases h i with h'|⟨e',l',h1,h2⟩
 ·rw[h',hi]
 ·rw[hi]at h1;cases h1
theorem sa{β:Type}{l a:List β}{o:Nat}(hl:o+a.length≤l.length)(i:Nat):(c5 l o a)[i]? =if o≤i∧i<o+a.length then a[i-o]? else l[i]? :=by
 unfold c5
 by_cases h1:i<o
 ·rw[if_neg (by omega),List.append_assoc,List.getElem?_append_left (by simp;omega),List.getElem?_take,if_pos h1]
 ·by_cases h2:i<o+a.length
  ·rw[if_pos (by omega),List.getElem?_append_left (by simp;omega),List.getElem?_append_right (by simp;omega)]
   simp[Nat.min_eq_left (show o≤l.length by omega)]
  ·rw[if_neg (by omega),List.getElem?_append_right (by simp;omega)]
   simp only[List.length_append,List.length_take,Nat.min_eq_left (show o≤l.length by omega),List.getElem?_drop]
   congr 1;omega
theorem C9{β:Type}{l a b:List β}{o o':Nat}(h:o'≤o∧o+a.length≤o'+b.length)(h1:o+a.length≤l.length)(h2:o'+b.length≤l.length):c5 (c5 l o a) o' b=c5 l o' b:=by
 have l1:=dR (a:=l) (o:=o) (new:=a) h1
 apply List.ext_getElem?
 intro i
 rw[sa (by omega),sa (by omega),sa (by omega)]
 by_cases c1:o'≤i∧i<o'+b.length
 ·rw[if_pos c1,if_pos c1]
 ·rw[if_neg c1,if_neg c1,if_neg (by omega)]
theorem z8{β:Type}{l:List β}{o:Nat}{u v:β}(h:o<l.length):c5 (c5 l o [u]) o [v]=c5 l o [v]:=
 C9 (by simp) (by simp;omega) (by simp;omega)
theorem LG{β:Type}{l a b:List β}{o o':Nat}(h:o+a.length≤o'∨o'+b.length≤o)(h1:o+a.length≤l.length)(h2:o'+b.length≤l.length):c5 (c5 l o a) o' b=c5 (c5 l o' b) o a:=by
 have l1:=dR (a:=l) (o:=o) (new:=a) h1
 have l2:=dR (a:=l) (o:=o') (new:=b) h2
 apply List.ext_getElem?
 intro i
 rw[sa (by omega),sa (by omega),sa (by omega),sa (by omega)]
 by_cases c1:o'≤i∧i<o'+b.length
 ·rw[if_pos c1,if_neg (by omega),if_pos c1]
 ·rw[if_neg c1]
  by_cases c2:o≤i∧i<o+a.length
  ·rw[if_pos c2,if_pos c2]
  ·rw[if_neg c2,if_neg c2,if_neg c1]
theorem Da{m:(υ:Ty)→υ.den→(υ.den→Option α)→Option α}: ∀{τ:Ty} {x:τ.den} {n:Nat} {k:τ.den→Option α},iM τ x n m k=some r→ ∃υ y o k',wg τ x n υ y o∧m υ y k'=some r:=fun h=>by
 obtain⟨υ,y,o,k',h1,h2,_⟩:=ni h
 exact⟨υ,y,o,k',h1,h2⟩
theorem xt{υ:Ty}{u:υ.den}: ∀{p:List Step} {τ:Ty} {x:τ.den} {k:τ.den→Option α},pM υ u p τ x k=some r→ ∃y o,Bl p τ x υ y o
 |[],τ,x,k,h=>by
  obtain⟨e,_⟩:=aY (h:bU υ τ u k=some r)
  subst e
  exact⟨x,0,.nil x⟩
 | .gg n::p,τ,x,k,h=>by
  obtain⟨υ',y,o,k',hf,hm⟩:=Da (h:iM τ x n _ k=some r)
  obtain⟨y',o',hp⟩:=xt (k:=k') hm
  exact⟨y',_,.gg hf hp⟩
 | .idx i::p,τ,x,k,h=>by
  cases τ with
  |arr n e=>
   obtain⟨y',o',hp⟩:=xt (p:=p) (τ:=e) (x:=List.getD x i e.zero) (k:=fun z=>k (List.set x i z)) h
   exact⟨y',_,.idx hp⟩
  |_=>simp[pM,wT]at h
theorem Aa: ∀{p q:List Step} {τ e:Ty},rm p q=true→dY q τ (.slice e)=true→bA p τ≤bA q τ∧bA q τ+1≤bA p τ+(zu p τ).size
 |[],q,τ,e,_,hq=>by
  obtain⟨_,_,ru⟩:=oa hq τ.zero
  have:=ru.bound (gj hq).1
  have h2:=ru.eq.2
  have:(Ty.slice e).size=1:=rfl
  simp only[bA,zu]
  omega
 | .gg a::p,.gg b::q,τ,e,hp,hq=>by
  simp only[rm,Bool.and_eq_true]at hp
  have:=Nat.eq_of_beq_eq_true hp.1
  subst this
  unfold dY at hq
  split at hq
  ·rename_i c hc
   obtain⟨_,_,hf⟩:=n9 hc τ.zero
   have:=hf.eq.1
   subst this
   have:=Aa hp.2 hq
   simp only[bA,zu]
   omega
  ·cases hq
 | .gg _::_,[],_,_,hp,_| .gg _::_,.idx _::_,_,_,hp,_| .idx _::_,_,_,_,hp,_=>by simp[rm]at hp
theorem ER.JE{H:Nat→Option aR}(hm:Mem c H w M ν){k:Nat}{e:Ty}{l:List e.den}(hk:H k=some (.own e l)): ∃ad cp,ν k= .slice ad l.length cp:=by
 have:=hm.im k _ hk
 simp only[ER]at this
 rcases this with⟨rfl,a,hv⟩|⟨b,cs,t,cap,hv,_⟩
 ·exact⟨a,0,hv⟩
 ·exact⟨_,cap,hv⟩
theorem xu(hE:EnvTy P E)(hc:Core c σ a.tmps w M ν){t:TypeId}{x y:Operand}(ho:o.op= .store t x y){K:fa α}{τ:Ty}(ht:E.ty t=some τ){id k:Nat}{q:List Step}{e:Ty}{υ:Ty}{z:υ.den}
  (hx:σ.ρ x= .eV id q) (hy:σ.ρ y= .ref k) {en:aR} (aS:σ.H id=some en) (hen:en.mut) (Ab:en.gM (.dE υ z q k)) (hq:dY q υ (.slice e)=true)
  (ll: ∃b cs te nf u,ν id= .pointer (some ⟨b,0,none⟩)∧w.heap[b]? =some (.cells cs te (0,0))∧Rd w M υ nf z∧cs.toList=c5 nf (bA q υ) [u])
  (h:vi τ id k e q υ z σ.H K=some r) (hn:dB c σ a o w M ν K r next):o.wp P a w next Q:=by
 unfold vi at h
 split at h
 ·rename_i e' l hk
  obtain⟨e1,h1⟩:=dt h
  clear h
  subst e1
  obtain⟨e2,h2⟩:=dt h1
  clear h1
  subst e2
  obtain⟨z',hK,zy,zp,rr⟩:=ka h2
  obtain⟨b,cs,te,nf,u,hb,hg,hr,Bp⟩:=ll
  have LD:=(gj hq).1
  obtain⟨ad,cp,hνk⟩:=ER.JE hc.mem hk
  have wo:=hc.ev y
  rw[hy]at wo
  simp only[VR]at wo
  have wo:=wo.2
  have zp:=zp LD
  have hlen:=hr.length
  have Iu:(Ty.slice e').size=1:=rfl
  have dF:bA q υ<nf.length:=by omega
  have C8:cs.toList.length=nf.length:=by rw[Bp];exact dR (by simp;omega)
  have hv:=hc.ev x
  rw[hx]at hv
  simp only[VR]at hv
  obtain⟨e3,he3,jk⟩:=hv
  rw[aS]at he3;cases he3
  have jk:=jk.gM Ab
  simp only[AR]at jk
  obtain⟨_,b',di,hu⟩:=jk
  rw[hb]at di;cases di
  have hyc:(a.eval y).cells.toList=[ν k]:=by rw[wo,hνk];rfl
  have oy:(a.eval y).cells.size=(Ty.slice e').size:=by rw[←Array.length_toList,hyc];rfl
  have cr:=iP (P:=P) ho (hE.ty t _ ht) hu hg oy (by rw[←Array.length_toList];omega) (by rw[hyc,hνk];simp[Value.oneCell'])
  have mW:(cs.toList.take (bA q υ)++(a.eval y).cells.toList++cs.toList.drop (bA q υ+(a.eval y).cells.toList.length))=c5 nf (bA q υ) [ν k]:=by
   rw[hyc]
   show c5 cs.toList (bA q υ) [ν k]=_
   rw[Bp,z8 dF]
  rw[mW]at cr
  have hrz:Rd w M υ (c5 nf (bA q υ) [.slice none 0 0]) z':=rr w M nf [.slice none 0 0] LD hr (Rd.zero w M (.slice e'))
  have eD:Tr c σ.H w M ν (bm σ.H id (some (.dE υ z' q k))) (w.setRow b (c5 nf (bA q υ) [ν k]).toArray) M ν:=by
   refine Tr.write (e':= .dE υ z' q k) hc.mem aS hen trivial (by cases en<;>simp only[aR.gM]at Ab ⊢ <;>exact Ab) (by rw[hb];rfl) hg (fun Ga zA uB=> ?_) (fun τ' x' p' j' hl=> ?_)
   ·simp only[ER]
    refine⟨b,_,te,c5 nf (bA q υ) [.slice none 0 0],ν k,hb,setRow_heap w b cs _ te _ hg,uB,hrz.br zA,?_,by rw[hνk];rfl,e',hq⟩
    rw[z8 dF]
   ·cases hl
    refine⟨by rw[hk];simp,b,hb,?_⟩
    rw[cell_of (setRow_heap w b cs _ te _ hg),←Array.getElem?_toList]
    show(c5 nf (bA q υ) [ν k])[bA q υ]? =_
    rw[wW dF]
  exact lZ cr (hn _ _ _ _ _ M ν hK eD (by simp[VR]))
 ·cases h
theorem xv(hE:EnvTy P E)(hc:Core c σ a.tmps w M ν){t:TypeId}{x y:Operand}(ho:o.op= .store t x y){K:fa α}{τ:Ty}(ht:E.ty t=some τ)
  (h:fL E τ (σ.ρ x) (σ.ρ y) σ.H K=some r) (hn:dB c σ a o w M ν K r next):o.wp P a w next Q:=by
 have hold:g8 τ (σ.ρ x) (σ.ρ y) σ.H K=some r→o.wp P a w next Q:=fun h=>JD hE hc ho ht h hn
 unfold fL at h
 simp only at h
 split at h
 ·rename_i id p hx
  have og:=hx
  split at h
  ·rename_i υ z aS
   split at h
   ·rename_i q e k oc hy
    cases hp:CP p q
    ·rw[hp]at h;exact hold h
    ·rw[hp]at h
     simp only[cond_true]at h
     have:=uy hp
     subst this
     have hq:=oh oc
     have iD:=hc.mem.im id _ aS
     simp only[ER]at iD
     obtain⟨b,cs,te,hb,hg,hM,hr⟩:=iD
     have dF:bA p υ<cs.toList.length:=by
      obtain⟨_,_,ru⟩:=oa hq z
      have:=ru.bound (gj hq).1
      have h2:=ru.eq.2
      have:=hr.length
      have:(Ty.slice e).size=1:=rfl
      omega
     refine xu hE hc ho ht hx hy aS trivial rfl hq ⟨b,cs,te,cs.toList,cs.toList[bA p υ],hb,hg,hr,?_⟩ h hn
     exact(C0 (List.getElem?_eq_getElem dF)).symm
   ·exact hold h
  ·rename_i υ z q j aS
   obtain⟨b,cs,te,nf,e0,hb,hg,hM,hr,Bp,h1,hq,dF,hj⟩:=hc.mem.linked aS
   have s7:g6 true (σ.ρ y) σ.H τ (fun y rd ups=>pM τ y p υ z fun z=>K .any (id::rd) (ups++[(id,some (cond (rm p q) (.obj υ z) (.dE υ z q j)))]))=some r→o.wp P a w next Q:=by
    intro h
    obtain⟨u,rd,ups,M',h,eD,hV,hz,gB⟩:=jw (.refl _) hc.mem (hc.ev y) h
    have kK:=hz.dE aS
    have hv:=hc.ev x
    rw[hx]at hv
    have WE:=VR.br eD.br eD.goes hv
    simp only[VR]at WE
    obtain⟨e1,GD,jk⟩:=WE
    rw[kK]at GD;cases GD
    simp only[AR]at jk
    obtain⟨hi,b1,jo,hu⟩:=jk
    rw[hb]at jo;cases jo
    obtain⟨b2,WD,te2,cs3,e3,rX,LF,Bq,CG,Pw,OZ,hq2,abA,hj2⟩:=eD.mem.linked kK
    rw[hb]at rX;cases rX
    rw[hg]at LF;cases LF
    obtain⟨z',hK,zy,zp,rr⟩:=ka h
    have zp:=zp hi
    have Pr:=CG.length
    have C8:cs.toList.length=cs3.length:=by rw[Pw];exact dR (by simp;omega)
    have hcy:=hV.cells.length
    rw[Array.length_toList]at hcy
    have anh:(a.eval y).cells.toList.length=τ.size:=by rw[Array.length_toList];exact hcy
    have cr:=iP (P:=P) ho (hE.ty t _ ht) hu hg hcy (by rw[←Array.length_toList];omega) hV.cells.jQ
    have LH:cs.toList.take (bA p υ)++(a.eval y).cells.toList++cs.toList.drop (bA p υ+(a.eval y).cells.toList.length)=c5 cs.toList (bA p υ) (a.eval y).cells.toList:=rfl
    rw[LH]at cr
    have hzr:=rr w M' cs3 _ hi CG hV.cells
    have fin: ∀e',e'.mut→aR.gM (.dE υ z q j) e'→K .any (id::rd) (ups++[(id,some e')])=some r→(∀Ga,c4 w M' (w.setRow b (c5 cs.toList (bA p υ) (a.eval y).cells.toList).toArray) Ga→Ga b→ER (w.setRow b (c5 cs.toList (bA p υ) (a.eval y).cells.toList).toArray) Ga (ν id) e')→
      (∀τ' x' p' j',e'= .dE τ' x' p' j'→(bP σ.H ups) j'≠none∧ ∃b',ν id= .pointer (some ⟨b',0,none⟩)∧(w.setRow b (c5 cs.toList (bA p υ) (a.eval y).cells.toList).toArray).cell? ⟨b',bA p' τ',none⟩=some (ν j'))→o.wp P a w next Q:=by
     intro e' gk CF hK Jy oc
     have p6:=Tr.write (e':=e') eD.mem kK trivial gk CF (by rw[hb];rfl) hg Jy oc
     refine lZ cr (hn _ _ _ _ _ M' ν hK ?_ (by simp[VR]))
     rw[dN]
     exact eD.trans p6
    cases C1:rm p q
    ·rw[C1]at hK
     simp only[cond_false]at hK
     obtain⟨yy,oo,ru⟩: ∃y o,Bl p υ z τ y o:=xt h
     have hap:=ru.apart hi hq C1
     have hoo:=ru.eq.2
     subst hoo
     have Vr:c5 cs.toList (bA p υ) (a.eval y).cells.toList=c5 (c5 cs3 (bA p υ) (a.eval y).cells.toList) (bA q υ) [ν j]:=by
      rw[Pw]
      exact LG (by simp only[List.length_singleton];omega) (by simp only[List.length_singleton];omega) (by omega)
     have OX:=dR (a:=cs3) (o:=bA p υ) (new:=(a.eval y).cells.toList) (by omega)
     refine fin (.dE υ z' q j) trivial rfl hK (fun Ga hk uB=> ?_) (fun τ' x' p' j' hl=> ?_)
     ·simp only[ER]
      exact⟨b,_,te,_,ν j,hb,setRow_heap w b cs _ te _ hg,uB,hzr.br hk,Vr,h1,e0,hq⟩
     ·cases hl
      refine⟨hj2,b,hb,?_⟩
      rw[cell_of (setRow_heap w b cs _ te _ hg),←Array.getElem?_toList]
      show(c5 cs.toList (bA p υ) (a.eval y).cells.toList)[bA q υ]? =_
      rw[Vr,wW (by omega)]
    ·rw[C1]at hK
     simp only[cond_true]at hK
     refine fin (.obj υ z') trivial rfl hK (fun Ga hk uB=> ?_) (fun τ' x' p' j' hl=>by cases hl)
     simp only[ER]
     refine⟨b,_,te,hb,setRow_heap w b cs _ te _ hg,uB,?_⟩
     show Rd _ _ υ (c5 cs.toList (bA p υ) (a.eval y).cells.toList) z'
     have gC:=Aa C1 hq
     rw[zy]at gC
     have ho:c5 cs.toList (bA p υ) (a.eval y).cells.toList=c5 cs3 (bA p υ) (a.eval y).cells.toList:=by
      rw[Pw]
      exact C9 (by simp only[List.length_singleton];omega) (by simp only[List.length_singleton];omega) (by omega)
     have h9:=hzr.br hk
     rw[←ho]at h9
     exact h9
   split at h
   ·rename_i q' e k oc hy
    cases hp:(CP p q&&CP q q')
    ·rw[hp]at h;exact s7 h
    ·rw[hp]at h
     simp only[cond_true]at h
     rw[Bool.and_eq_true]at hp
     have:=uy hp.1
     subst this
     have:=uy hp.2
     subst this
     refine xu hE hc ho ht hx hy aS trivial rfl (oh oc) ⟨b,cs,te,nf,ν j,hb,hg,hr,Bp⟩ h hn
   ·exact s7 h
  ·exact hold h
 ·exact hold h
theorem JF(hE:EnvTy P E)(hc:Core c σ a.tmps w M ν){t:TypeId}{x y:Operand}(ho:o.op= .store t x y){K:fa α}{τ:Ty}(ht:E.ty t=some τ)
  (h:nM E τ (σ.ρ x) (σ.ρ y) σ.H K=some r) (hn:dB c σ a o w M ν K r next):o.wp P a w next Q:=by
 unfold nM at h
 split at h
 ·rename_i id υ z n hx hy
  split at h
  ·rename_i m e oc
   cases xr:Nat.beq m n
   ·rw[xr]at h
    simp only[cond_false]at h
    exact xv hE hc ho ht h hn
   ·rw[xr]at h
    simp only[cond_true]at h
    have xr:=Nat.eq_of_beq_eq_true xr
    subst xr
    obtain⟨e1,h1⟩:=dt h
    clear h
    subst e1
    have hq:=oh oc
    have wo:=hc.ev y
    rw[hy]at wo
    simp only[VR]at wo
    obtain⟨hV,cs,ad,hva,hz⟩:=wo
    have hcy:(a.eval y).cells=cs:=by rw[hva];rfl
    obtain⟨en,aS,hen,hK⟩: ∃en:aR,σ.H id=some en∧(∃z0,en= .obj τ z0∨ ∃q j,en= .dE τ z0 q j)∧σ.H (id+2)=none∧K .any [id,id+2] [(id,some (.dE τ z [.gg m] (id+2))),(id+2,some (.own e []))]=some r:=by
     unfold iO at h1
     split at h1
     ·rename_i υ z0 aS
      obtain⟨e2,h2⟩:=dt h1
      clear h1
      subst e2
      obtain⟨h3,h4⟩:=gN h2
      exact⟨_,aS,⟨z0,.inl rfl⟩,h3,h4⟩
     ·rename_i υ z0 q j aS
      obtain⟨e2,h2⟩:=dt h1
      clear h1
      subst e2
      obtain⟨h3,h4⟩:=gN h2
      exact⟨_,aS,⟨z0,.inr ⟨q,j,rfl⟩⟩,h3,h4⟩
     ·cases h1
     ·cases h1
     ·cases h1
    obtain⟨hk,hK⟩:=hK
    have agZ:en.mut:=by rcases hen with⟨z0,rfl|⟨q,j,rfl⟩⟩<;>trivial
    have Ab:en.gM (.obj τ z):=by rcases hen with⟨z0,rfl|⟨q,j,rfl⟩⟩<;>rfl
    obtain⟨b,nf,te,hb,hg,oy⟩: ∃b nf te,ν id= .pointer (some ⟨b,0,none⟩)∧w.heap[b]? =some (.cells nf te (0,0))∧nf.toList.length=τ.size:=by
     rcases hen with⟨z0,rfl|⟨q,j,rfl⟩⟩
     ·have:=hc.mem.im id _ aS
      simp only[ER]at this
      obtain⟨b,nf,te,h2,h3,_,h5⟩:=this
      exact⟨b,nf,te,h2,h3,h5.length⟩
     ·obtain⟨b,nf,te,sO,_,h2,h3,_,h5,h6,_,_,h7,_⟩:=hc.mem.linked aS
      refine⟨b,nf,te,h2,h3,?_⟩
      rw[h6,dR (by simp only[List.length_singleton];omega),h5.length]
    have hv:=hc.ev x
    rw[hx]at hv
    simp only[VR]at hv
    obtain⟨e3,he3,jk⟩:=hv
    rw[aS]at he3;cases he3
    have jk:=jk.gM Ab
    simp only[AR]at jk
    obtain⟨_,b',di,hu⟩:=jk
    rw[hb]at di;cases di
    have C8:=hV.cells.length
    have cr:=iP (P:=P) ho (hE.ty t _ ht) hu hg (by rw[←Array.length_toList];exact C8) (by rw[←Array.length_toList,oy];simp[bA]) hV.cells.jQ
    have LH:nf.toList.take (bA [] τ)++(a.eval y).cells.toList++nf.toList.drop (bA [] τ+(a.eval y).cells.toList.length)=(a.eval y).cells.toList:=by
     simp only[bA,List.take_zero,List.nil_append,Nat.zero_add]
     rw[List.drop_of_length_le (by omega),List.append_nil]
    rw[LH]at cr
    have rr:=setRow_heap w b nf (a.eval y).cells.toList.toArray te _ hg
    have eD:=Tr.write (e':= .obj τ z) (new:=(a.eval y).cells.toList.toArray) hc.mem aS agZ trivial Ab (by rw[hb];rfl) hg (fun Ga zA uB=>by
     simp only[ER]
     exact⟨b,_,te,hb,rr,uB,hV.cells.br zA⟩)
    have gG:id+2≠id:=by omega
    have p6:=Tr.LB eD.mem (id:=id) (k:=id+2) (by rw[al _ _ gG];exact hk) (ak _ _ _) hb rr hq (ad:=ad) (by rw[hcy];simpa [bA]using hz)
    have e1:bP (bm σ.H id (some (.obj τ z))) [(id,some (.dE τ z [.gg m] (id+2))),(id+2,some (.own e []))]=bP σ.H [(id,some (.dE τ z [.gg m] (id+2))),(id+2,some (.own e []))]:=by
     show bm (bm (bm σ.H id _) id _) (id+2) _=bm (bm σ.H id _) (id+2) _
     rw[rY]
    rw[e1]at p6
    exact lZ cr (hn _ _ _ _ _ _ _ hK (eD.trans p6) (by simp[VR]))
  ·exact xv hE hc ho ht h hn
 ·exact xv hE hc ho ht h hn
end VM
end
section
namespace VM
open Go
variable{P:Program}{E:Env}{o:Oper}{a:Act}{w:World}{M:Nat→Prop}{ν:Nat→Value}{σ:St}{c:Ctx}{α:Type}{r:α}{next:Act→World→Prop}{Q:Exit→Act→World→Prop}
theorem nb{n:Nat}(h:Nat.beq n 0=false):n≠0:=by rw[←Bool.not_eq_true,Nat.beq_eq]at h;exact h
theorem At.sub{b off:Nat}{cs:List Value}(h:At w b off cs)(o n:Nat):At w b (off+o) ((cs.drop o).take n):=by
 intro j v hj
 rw[List.getElem?_take]at hj
 split at hj
 ·rw[List.getElem?_drop]at hj
  have:=h _ v hj
  rwa [←Nat.add_assoc]at this
 ·cases hj
def p7:aR→List Step→Option Ty
 | .obj τ _,p=>some (zu p τ)
 | .dE τ _ _ _,p=>some (zu p τ)
 | .own e _,.idx _::p| .jP e _,.idx _::p=>some (zu p e)
 |_,_=>none
theorem xw{id:Nat}{p:List Step}{H:Nat→Option aR}{k:Ty→Option α}(h:iO id p H k=some r): ∃e υ,H id=some e∧p7 e p=some υ∧k υ=some r:=by
 unfold iO at h
 split at h
 ·rename_i τ x aS
  obtain⟨υ,y,o,hp,hk⟩:=fN h
  exact⟨_,υ,aS,by simp[p7,hp.eq.1],hk⟩
 ·rename_i τ x _ _ aS
  obtain⟨υ,y,o,hp,hk⟩:=fN h
  exact⟨_,υ,aS,by simp[p7,hp.eq.1],hk⟩
 ·rename_i e l aS
  split at h
  ·obtain⟨υ,y,o,hp,hk⟩:=fN h
   exact⟨_,υ,aS,by simp[p7,hp.eq.1],hk⟩
  ·cases h
 ·rename_i e l aS
  split at h
  ·obtain⟨υ,y,o,hp,hk⟩:=fN h
   exact⟨_,υ,aS,by simp[p7,hp.eq.1],hk⟩
  ·cases h
 ·cases h
theorem AR.step{v:Value}{p:List Step}{u:Value}{e:aR}{υ:Ty}(h:AR v p u e)(ht:p7 e p=some υ)(s:Step)(hs:rq [s] υ):
  ∃b off,u= .pointer (some ⟨b,off,none⟩)∧AR v (p++[s]) (.pointer (some ⟨b,off+bA [s] υ,none⟩)) e:=by
 cases e with
 |obj τ x=>
  simp only[p7,Option.some.injEq]at ht
  simp only[AR]at h ⊢
  obtain⟨hi,b,hb,rfl⟩:=h
  subst ht
  exact⟨b,_,rfl,(nc p [s] τ).2 ⟨hi,hs⟩,b,hb,by rw[m9]⟩
 |dE τ x _ _=>
  simp only[p7,Option.some.injEq]at ht
  simp only[AR]at h ⊢
  obtain⟨hi,b,hb,rfl⟩:=h
  subst ht
  exact⟨b,_,rfl,(nc p [s] τ).2 ⟨hi,hs⟩,b,hb,by rw[m9]⟩
 |own e l=>
  simp only[AR]at h ⊢
  obtain⟨i,q,rfl,zx,hi,b,n,cp,hb,rfl⟩:=h
  simp only[p7,Option.some.injEq]at ht
  subst ht
  exact⟨b,_,rfl,i,q++[s],rfl,zx,(nc q [s] e).2 ⟨hi,hs⟩,b,n,cp,hb,by rw[m9,Nat.add_assoc]⟩
 |jP e l=>
  simp only[AR]at h ⊢
  obtain⟨i,q,rfl,zx,hi,b,n,cp,hb,rfl⟩:=h
  simp only[p7,Option.some.injEq]at ht
  subst ht
  exact⟨b,_,rfl,i,q++[s],rfl,zx,(nc q [s] e).2 ⟨hi,hs⟩,b,n,cp,hb,by rw[m9,Nat.add_assoc]⟩
 |gone=>simp[p7]at ht
theorem uC(hE:EnvTy P E)(hc:Core c σ a.tmps w M ν){t:TypeId}{x:Operand}{n:Nat}(ho:o.op= .fieldAddr t x n){K:fa α}{τ:Ty}(ht:E.ty t=some τ){id:Nat}{p:List Step}(hx:σ.ρ x= .eV id p)
  (h:iO id p σ.H (fun υ=>iN υ τ (rn τ τ.zero n fun υ' _=>cond (Nat.beq υ'.size 0) none (K (.eV id (p++[.gg n])) [id] [])))=some r) (hn:dB c σ a o w M ν K r next):o.wp P a w next Q:=by
 obtain⟨e,υ,aS,het,h⟩:=xw h
 obtain⟨WG,h_⟩:=dt h
 clear h
 subst WG
 have h:=h_
 clear h_
 obtain⟨υ',y,of,hf,h⟩:=n8 h
 obtain⟨hz,h⟩:=iq h
 have hv:=hc.ev x
 rw[hx]at hv
 simp only[VR]at hv
 obtain⟨e',rI,jk⟩:=hv
 rw[aS]at rI;cases rI
 obtain⟨b,off,hu,WH⟩:=jk.step het (.gg n) trivial
 obtain⟨fs,f,Gd,hff,hfo,LJ⟩:=(hE.ty t υ ht).gg hf
 obtain⟨v,cr,hvv⟩:=oe (P:=P) ho (w:=w) Gd hff LJ (nb hz) hu
 refine aO cr (hn _ _ _ _ _ M ν h (.refl hc.mem) ?_)
 simp only[VR]
 refine⟨e,aS,?_⟩
 rw[hvv,hfo,hf.eq.2]
 simpa [bA]using WH
theorem s8(hE:EnvTy P E)(hc:Core c σ a.tmps w M ν){t:TypeId}{x:Operand}{n:Nat}(ho:o.op= .fieldAddr t x n){K:fa α}{τ:Ty}(ht:E.ty t=some τ){υ:Ty}{z:υ.den}(hx:σ.ρ x= .lS υ z)
  (h:iN υ τ (rn υ z n fun υ y=>cond (Nat.beq υ.size 0) none (K (.lS υ y) [] []))=some r) (hn:dB c σ a o w M ν K r next):o.wp P a w next Q:=by
 obtain⟨he,h1⟩:=dt h
 subst he
 obtain⟨υ',y,of,hf,h⟩:=n8 h1
 obtain⟨hz,h⟩:=iq h
 have hv:=hc.ev x
 rw[hx]at hv
 simp only[VR]at hv
 obtain⟨b,off,hu,hb,hM,cs,lh,hr⟩:=hv
 obtain⟨fs,f,Gd,hff,hfo,LJ⟩:=(hE.ty t υ ht).gg hf
 obtain⟨v,cr,hvv⟩:=oe (P:=P) ho (w:=w) Gd hff LJ (nb hz) hu
 refine aO cr (hn _ _ _ _ _ M ν h (.refl hc.mem) ?_)
 simp only[VR]
 exact⟨b,off+f.offset,hvv,hb,hM,_,by rw[hfo];exact lh.sub of υ'.size,hf.rd hr⟩
theorem V.agg{τ:Ty}(ha:τ.isAgg=true){v:Value}{x:τ.den}(h:V w M τ v x): ∃cs,v= .agg cs∧Rd w M τ cs.toList x:=by
 unfold V at h;rw[if_pos ha]at h;exact h
theorem wg.agg{τ:Ty}{x:τ.den}{n:Nat}{υ:Ty}{y:υ.den}{o:Nat}(h:wg τ x n υ y o):τ.isAgg=true:=by cases h<;>rfl
theorem LK(hE:EnvTy P E)(hc:Core c σ a.tmps w M ν){t:TypeId}{x:Operand}{n:Nat}(ho:o.op= .field t x n){K:fa α}{τ:Ty}(ht:E.ty t=some τ){υ:Ty}{z:υ.den}(hx:σ.ρ x= .val υ z)
  (h:iN υ τ (rn υ z n fun υ y=>K (.val υ y) [] [])=some r) (hn:dB c σ a o w M ν K r next):o.wp P a w next Q:=by
 obtain⟨he,h1⟩:=dt h
 subst he
 obtain⟨υ',y,of,hf,h⟩:=n8 h1
 have hv:=hc.ev x
 rw[hx]at hv
 simp only[VR]at hv
 obtain⟨cs,hu,hr⟩:=hv.agg hf.agg
 obtain⟨fs,f,Gd,hff,hfo,LJ⟩:=(hE.ty t υ ht).gg hf
 have dA:=hf.rd hr
 refine aO (Bo ho Gd hff LJ hu (by rw[hfo];exact dA)) (hn _ _ _ _ _ M ν h (.refl hc.mem) ?_)
 simp only[VR]
 rw[hfo]
 exact V.bE dA
theorem Br(hE:EnvTy P E)(hc:Core c σ a.tmps w M ν){t:TypeId}{x i:Operand}(ho:o.op= .indexAddr t x i){K:fa α}{τ:Ty}(ht:E.ty t=some τ)
  (h:dQ τ (σ.ρ x) (σ.ρ i) σ.H K=some r) (hn:dB c σ a o w M ν K r next):o.wp P a w next Q:=by
 unfold dQ at h
 obtain⟨k,n,hi,h2⟩:=iQ h
 clear h
 have h:=h2
 clear h2
 have Iv:=hc.ev i
 rw[hi]at Iv
 have Iv:=Iv.int
 have hv:=hc.ev x
 have s6:=hE.ty t τ ht
 split at h
 ·
  rename_i e
  obtain⟨e',Gd,hle⟩:=s6.slice
  split at h
  ·rename_i υ l hx
   obtain⟨e1,h⟩:=aY h
   subst e1
   obtain⟨gC,h⟩:=bz h
   obtain⟨h0,h1⟩:=oF gC
   have h1:n<(List.length l:Int):=h1
   rw[hx]at hv
   simp only[VR]at hv
   have hv:=V.slice.1 hv
   simp only[Rd,List.cons.injEq,and_true]at hv
   obtain⟨ad,cap,hu,abD,hr⟩:=hv
   obtain⟨b,off,rfl,hb,hM,cs,lh,gB⟩:=hr n.toNat (by omega)
   refine aO (gH ho Gd hle hu Iv h0 h1) (hn _ _ _ _ _ M ν h (.refl hc.mem) ?_)
   simp only[VR]
   refine⟨b,_,rfl,hb,hM,cs,lh,?_⟩
   have:Rd w M e cs (List.getD l n.toNat e.zero):=by rw[gi l n.toNat e.zero (by omega)];exact gB
   exact this
  ·rename_i id hx
   rw[hx]at hv
   simp only[VR]at hv
   obtain⟨_,hu⟩:=hv
   split at h
   ·rename_i e2 l aS
    obtain⟨WG,h_⟩:=dt h
    clear h
    subst WG
    have h:=h_
    clear h_
    obtain⟨gC,h⟩:=bz h
    obtain⟨h0,h1⟩:=oF gC
    have iD:=hc.mem.im id _ aS
    simp only[ER]at iD
    rcases iD with⟨rfl,_⟩|⟨b,cs,te,cap,hb,hg,hM,Lj,hl,zm,hs,hr⟩
    ·simp at h1;omega
    ·rw[hb]at hu
     refine aO (gH ho Gd hle hu Iv h0 h1) (hn _ _ _ _ _ M ν h (.refl hc.mem) ?_)
     simp only[VR]
     refine⟨_,aS,?_⟩
     simp only[AR]
     exact⟨n.toNat,[],rfl,by omega,trivial,b,_,_,hb,by simp[bA]⟩
   ·rename_i e2 l aS
    obtain⟨WG,h_⟩:=dt h
    clear h
    subst WG
    have h:=h_
    clear h_
    obtain⟨gC,h⟩:=bz h
    obtain⟨h0,h1⟩:=oF gC
    have iD:=hc.mem.im id _ aS
    simp only[ER]at iD
    obtain⟨gB,hhd⟩:=iD
    simp only[Rd,List.cons.injEq,and_true]at gB
    obtain⟨ad,cap,hb,abD,hr⟩:=gB
    rcases hhd with⟨rfl,_⟩|⟨b,n2,c2,rX⟩
    ·simp at h1;omega
    ·rw[hb]at rX;cases rX
     rw[hb]at hu
     refine aO (gH ho Gd hle hu Iv h0 h1) (hn _ _ _ _ _ M ν h (.refl hc.mem) ?_)
     simp only[VR]
     refine⟨_,aS,?_⟩
     simp only[AR]
     exact⟨n.toNat,[],rfl,by omega,trivial,b,_,_,hb,by simp[bA]⟩
   ·cases h
  ·cases h
 ·
  rename_i len e
  obtain⟨e',Gd,hle⟩:=s6.arr
  split at h
  ·rename_i id p hx
   obtain⟨en,υ,aS,het,h⟩:=xw h
   obtain⟨WG,h_⟩:=dt h
   clear h
   subst WG
   have h:=h_
   clear h_
   obtain⟨gC,h⟩:=bz h
   obtain⟨h0,h1⟩:=oF gC
   rw[hx]at hv
   simp only[VR]at hv
   obtain⟨en',rI,jk⟩:=hv
   rw[aS]at rI;cases rI
   obtain⟨b,off,hu,WH⟩:=jk.step het (.idx n.toNat) ⟨⟨len,e,rfl,by omega⟩,trivial⟩
   refine aO (nh ho Gd hle hu Iv h0 h1) (hn _ _ _ _ _ M ν h (.refl hc.mem) ?_)
   simp only[VR]
   refine⟨en,aS,?_⟩
   simpa [bA,Wv]using WH
  ·rename_i υ l hx
   obtain⟨e1,h⟩:=aY h
   subst e1
   obtain⟨gC,h⟩:=bz h
   obtain⟨h0,h1⟩:=oF gC
   rw[hx]at hv
   simp only[VR]at hv
   obtain⟨b,off,hu,hb,hM,cs,lh,hr⟩:=hv
   refine aO (nh ho Gd hle hu Iv h0 h1) (hn _ _ _ _ _ M ν h (.refl hc.mem) ?_)
   simp only[VR]
   exact⟨b,_,rfl,hb,hM,_,lh.sub _ e.size,hr.idx (by omega)⟩
  ·cases h
 ·cases h
theorem wq(hc:Core c σ a.tmps w M ν){x:Operand}(ho:o.op= .nilCheck x){K:fa α}{id:Nat}{p:List Step}(hx:σ.ρ x= .eV id p)
  (h:K (.eV id p) [] []=some r) (hn:dB c σ a o w M ν K r next):o.wp P a w next Q:=by
 have hv:=hc.ev x
 have LM:=hv
 rw[hx]at hv
 simp only[VR]at hv
 obtain⟨e,he,jk⟩:=hv
 obtain⟨ad,hu⟩:=jk.ptr
 refine aO (pC ho hu) (hn _ _ _ _ _ M ν h (.refl hc.mem) ?_)
 rw[←hu,←hx];exact LM
theorem uD(hc:Core c σ a.tmps w M ν){x:Operand}(ho:o.op= .nilCheck x){K:fa α}{τ:Ty}{z:τ.den}(hx:σ.ρ x= .lS τ z)
  (h:K (.lS τ z) [] []=some r) (hn:dB c σ a o w M ν K r next):o.wp P a w next Q:=by
 have hv:=hc.ev x
 have LM:=hv
 rw[hx]at hv
 simp only[VR]at hv
 obtain⟨b,off,hu,_⟩:=hv
 refine aO (pC ho hu) (hn _ _ _ _ _ M ν h (.refl hc.mem) ?_)
 rw[←hu,←hx];exact LM
theorem fj.get{H:Nat→Option aR}: ∀{ld:List aW} {vs:List Value},fj w M H ν ld vs→ ∀{i:Nat} {x:aW},ld[i]? =some x→ ∃v,vs[i]? =some v∧VR w M H ν x v
 |[],_,_,i,x,hx=>by simp at hx
 |y::ld,[],h,_,_,_=>by simp[fj]at h
 |y::ld,v::vs,h,0,x,hx=>by
  simp only[fj]at h
  simp at hx;subst hx
  exact⟨v,rfl,h.1⟩
 |y::ld,v::vs,h,i+1,x,hx=>by
  simp only[fj]at h
  exact fj.get h.2 (by simpa using hx)
theorem GF(hc:Core c σ a.tmps w M ν){x:Operand}{i:Nat}(ho:o.op= .extract x i){K:fa α}{vs:List aW}{v:aW}(hx:σ.ρ x= .tup vs)(hi:vs[i]? =some v)
  (h:K v [] []=some r) (hn:dB c σ a o w M ν K r next):o.wp P a w next Q:=by
 have hv:=hc.ev x
 rw[hx]at hv
 simp only[VR]at hv
 obtain⟨us,hu,Px⟩:=hv
 obtain⟨u,hui,hvu⟩:=Px.get hi
 exact aO (xn ho hu hui) (hn _ _ _ _ _ M ν h (.refl hc.mem) hvu)
theorem Core.evs(hc:Core c σ a.tmps w M ν): ∀xs:List Operand,fj w M σ.H ν (xs.map σ.ρ) (xs.map a.eval)
 |[]=>by simp[fj]
 |x::xs=>by simp only[List.map_cons,fj];exact⟨hc.ev x,hc.evs xs⟩
theorem p8: ∀{ld:List aW} {vs:List Value} {H:Nat→Option aR} {M:Nat→Prop} {K:List aW→List Nat→e9→Option α},Mem c H w M ν→fj w M H ν ld vs→pY H ld K=some r→
  ∃cs rd ups M',K cs rd ups=some r∧Tr c H w M ν (bP H ups) w M' ν∧fj w M' (bP H ups) ν cs vs
 |[],vs,H,M,K,hm,hv,h=>⟨[],[],[],M,h,.refl hm,hv⟩
 |x::xs,[],H,M,K,hm,hv,h=>by simp[fj]at hv
 |x::xs,v::vs,H,M,K,hm,hv,h=>by
  simp only[fj]at hv
  unfold pY at h
  split at h
  ·rename_i id
   split at h
   ·rename_i τ z aS
    obtain⟨M1,b,ht,hb,dF,hM,nf,lh,gB⟩:=Tr.fix hm aS
    obtain⟨cs,rd,ups,M2,hK,O0,Py⟩:=p8 ht.mem (fj.br ht.br ht.goes hv.2) h
    refine⟨_,_,_,M2,hK,ht.trans O0,?_⟩
    have h1:VR w M1 (bm H id (some .gone)) ν (.lS τ z) v:=by
     have GG:=hv.1
     simp only[VR]at GG ⊢
     obtain⟨e,he,jk⟩:=GG
     rw[aS]at he;cases he
     simp only[AR]at jk
     obtain⟨_,b',di,GG⟩:=jk
     rw[hb]at di;cases di
     exact⟨b,0,GG,dF,hM,nf,lh,gB⟩
    simp only[fj]
    exact⟨VR.br O0.br O0.goes h1,Py⟩
   ·cases h
  ·obtain⟨cs,rd,ups,M2,hK,O0,Py⟩:=p8 hm hv.2 h
   refine⟨_,_,_,M2,hK,O0,?_⟩
   simp only[fj]
   exact⟨VR.br O0.br O0.goes hv.1,Py⟩
theorem Db(hc:Core c σ a.tmps w M ν){f:FuncId}{first caps:Array Operand}(ho:o.op= .makeFunc (.func f) first caps){K:fa α}
  (h:cond first.isEmpty (pY σ.H (caps.toList.map σ.ρ) fun cs rd ups=>K (.CQ f cs) rd ups) none=some r) (hn:dB c σ a o w M ν K r next):o.wp P a w next Q:=by
 obtain⟨hf,h⟩:=bz h
 obtain⟨cs,rd,ups,M',hK,ht,hv⟩:=p8 hc.mem (hc.evs _) h
 refine aO (wj ho (by simpa using hf)) (hn _ _ _ _ _ M' ν hK ht ?_)
 simp only[VR]
 exact⟨caps.toList.map a.eval,by congr 1;apply Array.ext';simp,hv⟩
theorem GH(hE:EnvTy P E)(hc:Core c σ a.tmps w M ν){s d:TypeId}{x:Operand}(ho:o.op= .convert s d x){K:fa α}{τ:Ty}{k:IntKind}(hs:E.ty s=some τ)(hd:E.ty d=some (.int k))
  (h:pV (σ.ρ x) (fun _ n=>K (.val (.int k) (W k n)) [] [])=some r) (hn:dB c σ a o w M ν K r next):o.wp P a w next Q:=by
 obtain⟨k',n,hx,h⟩:=iQ h
 have hv:=hc.ev x
 rw[hx]at hv
 refine aO (xp ho (hE.ty s τ hs).isSome (hE.ty d _ hd).int hv.int) (hn _ _ _ _ _ M ν h (.refl hc.mem) ?_)
 rw[xg];exact .mkInt k _
end VM
end
section
namespace VM
open Go
variable{P:Program}{E:Env}{o:Oper}{a:Act}{w:World}{M:Nat→Prop}{ν:Nat→Value}{σ:St}{c:Ctx}{α:Type}{r:α}{next:Act→World→Prop}{Q:Exit→Act→World→Prop}
theorem JG{b:BinOp}{k k':IntKind}{x y:Int}{t:TypeId}{K:aW→Option α}(h:Pm b k x y K=some r):
  ∃z,K (.val (.int k) z)=some r∧(binOp b t (.int k x) (.int k' y)).run P w= .ok (.int k z) w:=by
 unfold Pm at h
 split at h
 ·obtain⟨h0,h⟩:=iq h
  rw[rU]at h0
  have h0: ¬y<0:=by simpa using h0
  refine⟨_,h,?_⟩
  rw[xg,Lv]
  simp[binOp,Op.shift,h0]
 ·obtain⟨h0,h⟩:=iq h
  rw[rU]at h0
  have h0: ¬y<0:=by simpa using h0
  refine⟨_,h,?_⟩
  rw[Gz]
  simp[binOp,Op.shift,h0]
 ·cases h
theorem Bs{b:BinOp}{k:IntKind}{x y:Int}{t:TypeId}{K:aW→Option α}(h:oB b k x y K=some r):
  ∃v u,K v=some r∧(binOp b t (.int k x) (.int k y)).run P w= .ok u w∧ ∀H,VR w M H ν v u:=by
 unfold oB at h
 split at h
 ·exact⟨_,_,h,by simp[binOp,Op.intArith,xg],fun H=> .mkInt _ _⟩
 ·exact⟨_,_,h,by simp[binOp,Op.intArith,xg],fun H=> .mkInt _ _⟩
 ·exact⟨_,_,h,by simp[binOp,Op.intArith,xg],fun H=> .mkInt _ _⟩
 ·obtain⟨h0,h⟩:=iq h
  rw[eL]at h0
  have h0: ¬y=0:=by simpa using h0
  exact⟨_,_,h,by simp[binOp,Op.intDiv,xg,Wr,h0],fun H=> .mkInt _ _⟩
 ·obtain⟨h0,h⟩:=iq h
  rw[eL]at h0
  have h0: ¬y=0:=by simpa using h0
  exact⟨_,_,h,by simp[binOp,Op.intDiv,Ws,h0],fun H=> .mkInt _ _⟩
 ·exact⟨_,_,h,by simp[binOp,Op.intBits,oA],fun H=> .mkInt _ _⟩
 ·exact⟨_,_,h,by simp[binOp,Op.intBits,oA],fun H=> .mkInt _ _⟩
 ·exact⟨_,_,h,by simp[binOp,Op.intBits,oA],fun H=> .mkInt _ _⟩
 ·exact⟨_,_,h,by simp[binOp,Op.intBits,oA],fun H=> .mkInt _ _⟩
 ·exact⟨_,.bool (decide (x=y)),h,by simp[binOp,Op.intCmp];rfl,fun H=>by rw[eL];exact .oE _⟩
 ·exact⟨_,.bool (!decide (x=y)),h,by simp[binOp,Op.intCmp];rfl,fun H=>by rw[eL];exact .oE _⟩
 ·exact⟨_,_,h,by simp[binOp,Op.intCmp,rU],fun H=> .oE _⟩
 ·exact⟨_,_,h,by simp[binOp,Op.intCmp,iL],fun H=> .oE _⟩
 ·exact⟨_,_,h,by simp[binOp,Op.intCmp,rU],fun H=> .oE _⟩
 ·exact⟨_,_,h,by simp[binOp,Op.intCmp,iL],fun H=> .oE _⟩
 ·cases h
theorem JH{t:Option Ty}{op:BinOp}{τ:Ty}{x:τ.den}{υ:Ty}{y:υ.den}{K:aW→Option α}(h:xj t op τ x υ y K=some r):
  (∃(k k':IntKind) (m n:Int),aW.val τ x= .val (.int k) m∧aW.val υ y= .val (.int k') n∧(cond (Pn op) (Pm op k m n K) (if k=k' then oB op k m n K else none))=some r)∨
  (∃z:τ.den,aW.val υ y= .val τ z∧t=some τ∧τ.comparable=true∧((op= .eql∧K (.val .bool (pz τ x z))=some r)∨(op= .neq∧K (.val .bool (!pz τ x z))=some r))):=by
 unfold xj at h
 split at h
 ·exact .inl ⟨_,_,_,_,rfl,rfl,h⟩
 ·right
  split at h
  ·cases h
  ·obtain⟨e,h1⟩:=dt h
   clear h
   subst e
   obtain⟨hc,h⟩:=bz h1
   clear h1
   split at h
   ·obtain⟨e,h1⟩:=aY h
    subst e
    exact⟨_,rfl,rfl,hc,.inl ⟨rfl,h1⟩⟩
   ·obtain⟨e,h1⟩:=aY h
    subst e
    exact⟨_,rfl,rfl,hc,.inr ⟨rfl,h1⟩⟩
   ·cases h
theorem vn{t:TypeId}(hu:P.underlying t=some .bool)(x y:Bool)(w:World):(Op.equal t (.bool x) (.bool y)).run P w= .ok (x==y) w:=by
 unfold Op.equal
 obtain⟨n,hn⟩: ∃n,Op.maxDepth=n+1:=⟨9999,rfl⟩
 rw[hn]
 simp[Op.equalIn,run_underlying hu]
theorem run_eql_bool{t:TypeId}(hu:P.underlying t=some .bool)(x y:Bool):(binOp .eql t (.bool x) (.bool y)).run P w= .ok (.bool (x==y)) w:=by
 simp[binOp,vn hu]
theorem run_neq_bool{t:TypeId}(hu:P.underlying t=some .bool)(x y:Bool):(binOp .neq t (.bool x) (.bool y)).run P w= .ok (.bool (!(x==y))) w:=by
 simp[binOp,vn hu]
theorem abF(x y:ByteArray):(x.toList==y.toList)=decide (x.toList=y.toList):=by
 rw[Bool.eq_iff_iff];simp
theorem Dc{t:TypeId}(x y:ByteArray):(binOp .eql t (.string x) (.string y)).run P w= .ok (.bool (decide (x.toList=y.toList))) w:=by
 simp[binOp,Op.stringOp,abF]
theorem Dd{t:TypeId}(x y:ByteArray):(binOp .neq t (.string x) (.string y)).run P w= .ok (.bool (!decide (x.toList=y.toList))) w:=by
 simp[binOp,Op.stringOp,abF]
theorem LN(hE:EnvTy P E)(hc:Core c σ a.tmps w M ν){b:BinOp}{t t':TypeId}{x y:Operand}(ho:o.op= .binOp b t x y t'){K:fa α}
  (h:CS (σ.ρ x) (fun τ x=>CS (σ.ρ y) fun υ y=>xj (E.ty t) b τ x υ y fun v=>K v [] [])=some r) (hn:dB c σ a o w M ν K r next):o.wp P a w next Q:=by
 have hx:=hc.ev x
 have hy:=hc.ev y
 unfold CS at h
 split at h
 ·rename_i τ x' WI
  split at h
  ·rename_i υ y' hye
   rw[WI]at hx;rw[hye]at hy
   rcases JH h with⟨k,k',m,n,e1,e2,h1⟩|⟨z,e2,ht,JI,h1⟩
   ·rw[e1]at hx;rw[e2]at hy
    have hx:=hx.int
    have hy:=hy.int
    cases hs:Pn b
    ·rw[hs]at h1
     replace h1:(if k=k' then oB b k m n (fun v=>K v [] [])else none)=some r:=h1
     split at h1
     ·rename_i hk;subst hk
      obtain⟨v,u,hK,cr,hVR⟩:=Bs (P:=P) (w:=w) (M:=M) (ν:=ν) (t:=t) h1
      exact aO (lj ho (by rw[hx,hy];exact kN w) (by rw[hx,hy];exact cr)) (hn _ [] [] _ _ _ _ hK (.refl hc.mem) (hVR _))
     ·cases h1
    ·rw[hs]at h1
     replace h1:Pm b k m n (fun v=>K v [] [])=some r:=h1
     obtain⟨z,hK,cr⟩:=JG (P:=P) (w:=w) (k':=k') (t:=t) h1
     exact aO (lj ho (by rw[hx,hy];exact kN w) (by rw[hx,hy];exact cr)) (hn _ [] [] _ _ _ _ hK (.refl hc.mem) (.mkInt _ _))
   ·rw[e2]at hy
    have key:(eqGuard b t x y (a.eval x) (a.eval y)).run P w= .ok () w∧(binOp .eql t (a.eval x) (a.eval y)).run P w= .ok (.bool (pz τ x' z)) w∧(binOp .neq t (a.eval x) (a.eval y)).run P w= .ok (.bool (!pz τ x' z)) w:=by
     by_cases C4:τ.isAgg=true
     ·simp only[VR]at hx hy
      exact hE.eq t τ ht JI C4 w M _ _ _ _ b x y hx hy
     ·have hl:=hE.ty t τ ht
      cases τ with
      |int k=>
       rw[hx.int,hy.int]
       refine⟨kN w,?_,?_⟩
       ·simp[binOp,Op.intCmp,pz,eL];rfl
       ·simp[binOp,Op.intCmp,pz,eL];rfl
      |bool=>rw[hx.bool,hy.bool];exact⟨uA w,run_eql_bool hl.bool _ _,run_neq_bool hl.bool _ _⟩
      |str=>rw[hx.str,hy.str];exact⟨wk w,by rw[Dc];simp[pz,xi],by rw[Dd];simp[pz,xi]⟩
      |slice e=>simp[Ty.comparable]at JI
      |unit=>simp[Ty.isAgg]at C4
      |pair _ _=>simp[Ty.isAgg]at C4
      |arr _ _=>simp[Ty.isAgg]at C4
    obtain⟨hg,h2,h3⟩:=key
    rcases h1 with⟨rfl,hK⟩|⟨rfl,hK⟩
    ·exact aO (lj ho hg h2) (hn _ [] [] _ _ _ _ hK (.refl hc.mem) (.oE _))
    ·exact aO (lj ho hg h3) (hn _ [] [] _ _ _ _ hK (.refl hc.mem) (.oE _))
  ·cases h
 ·cases h
theorem Pz(hc:Core c σ a.tmps w M ν){u:UnOp}{t:TypeId}{x:Operand}(ho:o.op= .unOp u t x){K:fa α}
  (h:Jv u (σ.ρ x) (fun v=>K v [] [])=some r) (hn:dB c σ a o w M ν K r next):o.wp P a w next Q:=by
 have hx:=hc.ev x
 unfold Jv at h
 split at h
 ·rename_i k n WI
  rw[WI]at hx
  refine aO (p5 ho (v:= .int k (k.wrap (0-n))) ?_) (hn _ [] [] _ _ _ _ h (.refl hc.mem) (by rw[xg];exact .mkInt _ _))
  rw[hx.int];simp[Op.unary,Op.intArith]
 ·rename_i k n WI
  rw[WI]at hx
  refine aO (p5 ho (v:= .int k (n5 .xor k (if k.signed then-1 else k.max) n)) ?_) (hn _ [] [] _ _ _ _ h (.refl hc.mem) (.mkInt _ _))
  rw[hx.int,oA];simp[Op.unary,Op.intBits]
 ·rename_i b WI
  rw[WI]at hx
  refine aO (p5 ho (v:= .bool (!b)) ?_) (hn _ [] [] _ _ _ _ h (.refl hc.mem) (.oE _))
  rw[hx.bool];simp[Op.unary]
 ·cases h
end VM
end
section
namespace VM
open Go
variable{P:Program}{E:Env}{o:Oper}{a:Act}{w:World}{M:Nat→Prop}{ν:Nat→Value}{σ:St}{c:Ctx}{α:Type}{r:α}{next:Act→World→Prop}{Q:Exit→Act→World→Prop}
theorem jx{args:Array Operand}{ts:Array TypeId}{t:TypeId}{x:Operand}{n:Nat}(ho:o.op= .call {callee:= .builtin .len,args,argTypes:=ts})(ha:args.toList=[x])(_ht:ts.toList.head?=some t)
  (hl: ∀ty,(Builtin.len_ ts ty #[a.eval x]).run P w= .ok (goInt n) w):(execOp a.eval o).run P w= .ok (.value (.int .i64 n)) w:=by
 obtain⟨cs,hr⟩:=lX (P:=P) (ρ:=a.eval) ho (w:=w)
 rw[hr]
 have:args.map a.eval= #[a.eval x]:=by apply Array.ext';simp[ha]
 rw[this]
 simp[builtin,hl,goInt]
theorem PA{ts:Array TypeId}{t ty:TypeId}(ht:ts[0]? =some t)(hu:P.underlying t=some .string)(s:ByteArray):(Builtin.len_ ts ty #[.string s]).run P w= .ok (goInt s.size) w:=by
 simp[Builtin.len_,ht,run_underlying hu]
theorem PB{ts:Array TypeId}{t ty e:TypeId}{n:Nat}(ht:ts[0]? =some t)(hu:P.underlying t=some (.array n e))(v:Value):(Builtin.len_ ts ty #[v]).run P w= .ok (goInt n) w:=by
 simp[Builtin.len_,ht,run_underlying hu]
theorem qR{ts:Array TypeId}{t ty e:TypeId}(ht:ts[0]? =some t)(hu:P.underlying t=some (.slice e))(ad:Option Addr)(n cp:Nat):(Builtin.len_ ts ty #[.slice ad n cp]).run P w= .ok (goInt n) w:=by
 simp[Builtin.len_,ht,run_underlying hu]
theorem ER.LO{e:Ty}{l:List e.den}{v:Value}(h:ER w M v (.own e l)): ∃ad cp,v= .slice ad l.length cp:=by
 simp only[ER]at h
 rcases h with⟨rfl,a,hv⟩|⟨b,cs,t,cap,hv,_⟩
 ·exact⟨a,0,hv⟩
 ·exact⟨_,cap,hv⟩
theorem ER.LP{e:Ty}{l:List e.den}{v:Value}(h:ER w M v (.jP e l)): ∃ad cp,v= .slice ad l.length cp:=by
 simp only[ER]at h
 have h:=h.1
 simp only[Rd,List.cons.injEq,and_true]at h
 obtain⟨a,cap,hv,_⟩:=h
 exact⟨a,cap,hv⟩
theorem WJ(hE:EnvTy P E)(hc:Core c σ a.tmps w M ν){args:Array Operand}{ts:Array TypeId}{x:Operand}(ho:o.op= .call {callee:= .builtin .len,args,argTypes:=ts})(ha:args.toList=[x]){K:fa α}{τ:Ty}
  (ht:(ts.toList.head?).bind E.ty=some τ) (h:CT τ (σ.ρ x) σ.H K=some r) (hn:dB c σ a o w M ν K r next):o.wp P a w next Q:=by
 obtain⟨t,p9,O0⟩:=Option.bind_eq_some_iff.1 ht
 have PC:ts[0]? =some t:=by rw[←p9,←Array.getElem?_toList,List.head?_eq_getElem?]
 have hl:=hE.ty t τ O0
 have hv:=hc.ev x
 unfold CT at h
 split at h
 ·rename_i e e' l hx
  obtain⟨_,hu,_⟩:=hl.slice
  rw[hx]at hv
  simp only[VR]at hv
  have hv:=V.slice.1 hv
  simp only[Rd,List.cons.injEq,and_true]at hv
  obtain⟨ad,cap,hv,_⟩:=hv
  refine aO (jx ho ha p9 (n:=List.length l) fun ty=>by rw[hv];exact qR PC hu _ _ _) (hn _ [] [] _ _ _ _ h (.refl hc.mem) (.mkInt _ _))
 ·rename_i n e n' e' l hx
  obtain⟨_,hu,_⟩:=hl.arr
  refine aO (jx ho ha p9 (n:=n) fun ty=>PB PC hu _) (hn _ [] [] _ _ _ _ h (.refl hc.mem) (.mkInt _ _))
 ·rename_i s hx
  rw[hx]at hv
  refine aO (jx ho ha p9 (n:=ByteArray.size s) fun ty=>by rw[hv.str];exact PA PC hl.str _) (hn _ [] [] _ _ _ _ h (.refl hc.mem) (.mkInt _ _))
 ·rename_i e hx
  obtain⟨_,hu,_⟩:=hl.slice
  rw[hx]at hv
  simp only[VR]at hv
  obtain⟨ad,hv⟩:=hv
  refine aO (jx ho ha p9 (n:=0) fun ty=>by rw[hv];exact qR PC hu _ _ _) (hn _ [] [] _ _ _ _ h (.refl hc.mem) (.mkInt _ _))
 ·rename_i e id hx
  obtain⟨_,hu,_⟩:=hl.slice
  rw[hx]at hv
  simp only[VR]at hv
  split at h
  ·rename_i e' l aS
   obtain⟨ad,cap,hh⟩:=(hc.mem.im id _ aS).LO
   refine aO (jx ho ha p9 (n:=l.length) fun ty=>by rw[hv.2,hh];exact qR PC hu _ _ _) (hn _ [id] [] _ _ _ _ h (.refl hc.mem) (.mkInt _ _))
  ·rename_i e' l aS
   obtain⟨ad,cap,hh⟩:=(hc.mem.im id _ aS).LP
   refine aO (jx ho ha p9 (n:=l.length) fun ty=>by rw[hv.2,hh];exact qR PC hu _ _ _) (hn _ [id] [] _ _ _ _ h (.refl hc.mem) (.mkInt _ _))
  ·cases h
 ·cases h
theorem De{H:Nat→Option aR}(up:Bool): ∀(xs:List aW) (x:aW) (v:Value) (vs:List Value) (K:aW→Option α),VR w M H ν x v→fj w M H ν xs vs→OW up x xs K=some r→
  ∃x' v',K x'=some r∧(vs.foldlM (if up then Builtin.max2 else Builtin.min2) v).run P w= .ok v' w∧VR w M H ν x' v'
 |[],x,v,[],K,hx,_,h=>⟨x,v,h,by simp,hx⟩
 |[],_,_,_::_,_,_,hs,_=>by simp[fj]at hs
 |_::_,_,_,[],_,_,hs,_=>by simp[fj]at hs
 |y::xs,x,v,u::vs,K,hx,hs,h=>by
  simp only[fj]at hs
  obtain⟨hy,hs⟩:=hs
  unfold OW at h
  obtain⟨k,m,e1,h1⟩:=iQ h
  obtain⟨k',n,e2,h2⟩:=iQ h1
  clear h h1
  split at h2
  ·rename_i hk
   subst hk
   rw[e1]at hx;rw[e2]at hy
   have hx:=hx.int
   have hy:=hy.int
   obtain⟨x',v',hK,cr,hV⟩:=De up xs _ (.int k (cond up (mx m n) (mn m n))) vs K (.mkInt _ _) hs h2
   refine⟨x',v',hK,?_,hV⟩
   rw[List.foldlM_cons,Sem.run_bind]
   have:((if up then Builtin.max2 else Builtin.min2) v u).run P w= .ok (.int k (cond up (mx m n) (mn m n))) w:=by
    rw[hx,hy]
    cases up
    ·simp[Builtin.min2,Vn]
    ·simp[Builtin.max2,abm]
   rw[this]
   exact cr
  ·cases h2
theorem Vs(hc:Core c σ a.tmps w M ν)(up:Bool){args:Array Operand}{ts:Array TypeId}{x:Operand}{xs:List Operand}(ho:o.op= .call {callee:= .builtin (if up then .max else .min),args,argTypes:=ts})(ha:args.toList=x::xs){K:fa α}
  (h:OW up (σ.ρ x) (xs.map σ.ρ) (fun v=>K v [] [])=some r) (hn:dB c σ a o w M ν K r next):o.wp P a w next Q:=by
 obtain⟨x',v',hK,cr,hV⟩:=De (P:=P) up (xs.map σ.ρ) (σ.ρ x) (a.eval x) (xs.map a.eval) _ (hc.ev x) (hc.evs xs) h
 refine aO ?_ (hn _ [] [] _ _ _ _ hK (.refl hc.mem) hV)
 obtain⟨cs,hr⟩:=lX (P:=P) (ρ:=a.eval) ho (w:=w)
 rw[hr]
 have hm:(args.map a.eval).toList=a.eval x::xs.map a.eval:=by simp[ha]
 cases up
 ·simp only[Bool.false_eq_true,if_false,builtin,Builtin.min_,hm,Sem.run_bind]at cr ⊢
  rw[cr];simp
 ·simp only[if_true,builtin,Builtin.max_,hm,Sem.run_bind]at cr ⊢
  rw[cr];simp
theorem zB{ρ:Operand→Value}{t:TypeId}{x i:Operand}(ho:o.op= .index t x i){k:IntKind}{n:Int}{s:ByteArray}
  (hu:P.underlying t=some .string) (hx:ρ x= .string s) (hi:ρ i= .int k n) (h0:0≤n) (h1:n<(s.size:Int)):
  (execOp ρ o).run P w= .ok (.value (.int .u8 ((s.data.getD n.toNat 0).toNat:Int))) w:=by
 have dF:n.toNat<s.size:=by omega
 have hs:s[n.toNat]? =some (s[n.toNat]'dF):=by simp[dF]
 have he:s[n.toNat]'dF=s.data.getD n.toNat 0:=by
  have sb:n.toNat<s.data.size:=dF
  rw[Array.getD,dif_pos sb];rfl
 simp[execOp,ho,hx,hi,Instr.index,asIntOf,run_underlying hu,h0,hs,he]
theorem LR(hE:EnvTy P E)(hc:Core c σ a.tmps w M ν){t:TypeId}{x i:Operand}(ho:o.op= .index t x i){K:fa α}{τ:Ty}(ht:E.ty t=some τ)
  (h:pZ τ (σ.ρ x) (σ.ρ i) (fun v=>K v [] [])=some r) (hn:dB c σ a o w M ν K r next):o.wp P a w next Q:=by
 unfold pZ at h
 obtain⟨k,n,hi,h2⟩:=iQ h
 clear h
 have h:=h2
 clear h2
 have Iv:=hc.ev i
 rw[hi]at Iv
 have Iv:=Iv.int
 have hv:=hc.ev x
 have s6:=hE.ty t τ ht
 split at h
 ·rename_i len e υ l hx
  obtain⟨e',Gd,hle⟩:=s6.arr
  obtain⟨e1,h⟩:=aY h
  subst e1
  obtain⟨gC,h⟩:=bz h
  obtain⟨h0,h1⟩:=oF gC
  rw[hx]at hv
  simp only[VR]at hv
  obtain⟨cs,hu,hr⟩:=hv.agg rfl
  have dA:=hr.idx (i:=n.toNat) (by omega)
  refine aO (zw ho Gd hle hu Iv h0 h1 dA) (hn _ [] [] _ _ _ _ h (.refl hc.mem) ?_)
  simp only[VR]
  exact V.bE dA
 ·rename_i s hx
  obtain⟨gC,h⟩:=bz h
  obtain⟨h0,h1⟩:=oF gC
  rw[hx]at hv
  refine aO (zB ho s6.str hv.str Iv h0 h1) (hn _ [] [] _ _ _ _ h (.refl hc.mem) (.mkInt _ _))
 ·cases h
theorem jR(τ:Ty):τ.bW.length=τ.size:=(Rd.zero default (fun _=>False) τ).length
theorem wu{z:Array Value}{n i s:Nat}(hz:z.size=s)(hi:i*s+s≤n):((madeCells z n).toList.drop (i*s)).take s=z.toList:=by
 apply List.ext_getElem?
 intro j
 rw[List.getElem?_take]
 split
 ·rename_i hj
  rw[List.getElem?_drop,Array.getElem?_toList,Array.getElem?_toList]
  simp only[madeCells,Array.getElem?_map]
  rw[Array.getElem?_range,if_pos (by omega)]
  simp only[Option.map_some]
  have:(i*s+j)%z.size=j:=by rw[hz,Nat.mul_comm,Nat.mul_add_mod,Nat.mod_eq_of_lt hj]
  rw[this,Array.getElem?_eq_getElem (by omega),getElem!_pos z j (by omega)]
 ·rename_i hj
  rw[Array.getElem?_toList,Array.getElem?_eq_none (by omega)]
theorem lY.made(w:World)(M:Nat→Prop)(e:Ty){n l:Nat}(h:l*e.size≤n):lY w M e (madeCells (bE e e.bW).cells n).toList (List.replicate l e.zero):=by
 intro i hi
 rw[List.length_replicate]at hi
 have:=cH (s:=e.size) hi
 rw[wu (by rw[←Array.length_toList,eg,jR]) (by omega),eg,List.getElem_replicate]
 exact Rd.zero w M e
theorem uE{ρ:Operand→Value}{t:TypeId}{x y:Operand}(ho:o.op= .makeSlice t x y){v:Value}{w':World}(h:(Instr.makeSlice t (ρ x) (ρ y)).run P w= .ok v w'):(execOp ρ o).run P w= .ok (.value v) w':=by
 simp[execOp,ho,h]
theorem Bt(hE:EnvTy P E)(hc:Core c σ a.tmps w M ν){t:TypeId}{x y:Operand}(ho:o.op= .makeSlice t x y){K:fa α}{e:Ty}(ht:E.ty t=some (.slice e)){id:Nat}
  (h:pV (σ.ρ x) (fun _ l=>pV (σ.ρ y) fun _ c=>cond (fK l c)
   (lT σ.H id (.own e []) (K (.ref id) [id] [(id,some (.own e (List.replicate l.toNat e.zero)))])) none)=some r) (hn:dB c σ a o w M ν K r next):o.wp P a w next Q:=by
 obtain⟨k,l,hx,h1⟩:=iQ h
 obtain⟨k',n,hy,h2⟩:=iQ h1
 clear h h1
 obtain⟨hk,h⟩:=bz h2
 obtain⟨aS,h⟩:=gN h
 rw[z1]at hk
 obtain⟨h0,h1,h3⟩:=of_decide_eq_true hk
 simp only[sS]at h3
 obtain⟨e',hu,hle⟩:=(hE.ty t _ ht).slice
 obtain⟨i,hi,hs,hz,hb⟩:=hle.base
 have Bu:=hc.ev x
 have wo:=hc.ev y
 rw[hx]at Bu;rw[hy]at wo
 have WK:(i.bytes:Int)*n≤281474976710656:=by
  have h4:(i.bytes:Int)≤2048:=by omega
  have:(i.bytes:Int)*n≤2048*n:=Int.mul_le_mul_of_nonneg_right h4 (by omega)
  omega
 have cr:=run_make (P:=P) w t e' i _ hu hi hz k k' l n h0 h1 WK (by omega)
 have hlen:(List.replicate l.toNat e.zero).length=l.toNat:=List.length_replicate
 have eD:=Tr.row hc.mem aS e' (e:=e) (cs:=madeCells (bE e e.bW).cells (n.toNat*i.size)) (l:=List.replicate l.toNat e.zero) (cap:=n.toNat) (by rw[hlen];omega) (by simp[maxLen];omega)
  (by rw[size_madeCells,hs]) (lY.made w M e (Nat.mul_le_mul (by omega) (by omega)))
 refine aO (uE ho (by rw[Bu.int,wo.int];exact cr)) (hn _ _ _ _ _ _ _ h eD ?_)
 simp only[VR]
 exact⟨by show bm σ.H id _ id≠none;rw[ak];simp,by simp[b9]⟩
end VM
end
