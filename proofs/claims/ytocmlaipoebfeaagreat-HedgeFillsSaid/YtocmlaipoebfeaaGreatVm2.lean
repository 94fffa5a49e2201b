/- A part of the proof of HedgeFills of layer 22: a machine that reads a function of the program as an equation between values. -/
import Derived.Test.YtocmlaipoebfeaaGreatVm1
set_option linter.all false
section
namespace VM
open Go
variable{P:Program}{E:Env}{o:Oper}{a:Act}{w:World}{M:Nat→Prop}{ν:Nat→Value}{σ:St}{c:Ctx}{α:Type}{r:α}{next:Act→World→Prop}{Q:Exit→Act→World→Prop}
theorem aN{v:Value}{w':World}(h:(execOp a.eval o).run P w= .ok (.value v) w')(hn:next (a.put o.dst v) w'):o.wp P a w next Q:=by
 unfold Oper.wp Oper.upon;rw[h];exact hn
theorem nv{w':World}(h:(execOp a.eval o).run P w= .ok .skip w')(hn:next (a.put o.dst undef) w'):o.wp P a w next Q:=by
 unfold Oper.wp Oper.upon;rw[h];exact hn
def dU(c:Ctx)(σ:St)(a:Act)(o:Oper)(w:World)(M:Nat→Prop)(ν:Nat→Value)(K:fG α)(r:α)(next:Act→World→Prop):Prop:=
 ∀v rd ups v' w' M' ν',K v rd ups=some r→Tr c σ.H w M ν (b8 σ.H ups) w' M' ν'→VR w' M' (b8 σ.H ups) ν' v v'→next (a.put o.dst v') w'
theorem Core.ev(h:Core c σ a.tmps w M ν)(x:Operand):VR w M σ.H ν (σ.ρ x) (a.eval x):=h.op a.defers x
theorem jN{x:a6}{k:IntKind→Int→Option α}(h:rD x k=some r): ∃(i:IntKind) (n:Int),x= .val (.int i) n∧k i n=some r:=by
 unfold rD at h
 split at h
 ·exact⟨_,_,rfl,h⟩
 ·cases h
theorem VR.int{H:Nat→Option aR}{k:IntKind}{n:Int}{v:Value}(h:VR w M H ν (.val (.int k) n) v):v= .int k n:=by
 simp only[VR,V,Ty.isAgg,Bool.false_eq_true,if_false,Rd,List.cons.injEq,and_true]at h;exact h
theorem VR.bool{H:Nat→Option aR}{b:Bool}{v:Value}(h:VR w M H ν (.val .bool b) v):v= .bool b:=by
 simp only[VR,V,Ty.isAgg,Bool.false_eq_true,if_false,Rd,List.cons.injEq,and_true]at h;exact h
theorem VR.str{H:Nat→Option aR}{b:ByteArray}{v:Value}(h:VR w M H ν (.val .str b) v):v= .string b:=by
 simp only[VR,V,Ty.isAgg,Bool.false_eq_true,if_false,Rd,List.cons.injEq,and_true]at h;exact h
theorem VR.mkInt{H:Nat→Option aR}(k:IntKind)(n:Int):VR w M H ν (.val (.int k) n) (.int k n):=by simp[VR,V,Ty.isAgg,Rd]
theorem VR.qf{H:Nat→Option aR}(b:Bool):VR w M H ν (.val .bool b) (.bool b):=by simp[VR,V,Ty.isAgg,Rd]
theorem VR.mkStr{H:Nat→Option aR}(b:ByteArray):VR w M H ν (.val .str b) (.string b):=by simp[VR,V,Ty.isAgg,Rd]
theorem LS(hc:Core c σ a.tmps w M ν){x:Operand}(ho:o.op= .move x∨o.op= .assign x){K:fG α}(h:K (σ.ρ x) [] []=some r)(hn:dU c σ a o w M ν K r next):o.wp P a w next Q:=by
 have hr:(execOp a.eval o).run P w= .ok (.value (a.eval x)) w:=by
  rcases ho with ho|ho
  ·simp[execOp,ho]
  ·simp[execOp,ho]
 exact aN hr (hn _ _ _ _ _ _ _ h (.refl hc.mem) (hc.ev x))
theorem TF(hc:Core c σ a.tmps w M ν){x y z:Operand}(ho:o.op= .pick x y z){K:fG α}{t:Bool}(hx:σ.ρ x= .val .bool t)(h:cond t (K (σ.ρ y) [] []) (K (σ.ρ z) [] [])=some r)
  (hn:dU c σ a o w M ν K r next):o.wp P a w next Q:=by
 have hv:=hc.ev x
 rw[hx]at hv
 refine aN (FQ ho hv.bool) ?_
 cases t
 ·exact hn _ _ _ _ _ _ _ h (.refl hc.mem) (hc.ev z)
 ·exact hn _ _ _ _ _ _ _ h (.refl hc.mem) (hc.ev y)
theorem iE{H:Nat→Option aR}{id:Nat}{e:aR}{K:Option α}(h:nn H id e K=some r):H id=none∧K=some r:=by
 unfold nn at h
 split at h
 ·rename_i h';exact⟨h',h⟩
 ·cases h
theorem VR.aaa{H:Nat→Option aR}{id:Nat}{τ:Ty}{x:τ.den}{b:Nat}(aU:H id=some (.obj τ x))(hν:ν id= .pointer (some ⟨b,0,none⟩)):VR w M H ν (.fP id []) (.pointer (some ⟨b,0,none⟩)):=by
 simp only[VR]
 exact⟨_,aU,trivial,b,hν,rfl⟩
theorem VR.PG{H:Nat→Option aR}{id:Nat}{τ:Ty}{x:τ.den}{q:List Step}{j b:Nat}(aU:H id=some (.dW τ x q j))(hν:ν id= .pointer (some ⟨b,0,none⟩)):VR w M H ν (.fP id []) (.pointer (some ⟨b,0,none⟩)):=by
 simp only[VR]
 exact⟨_,aU,trivial,b,hν,rfl⟩
theorem eJ(τ:Ty):(bQ τ τ.ck).cells.toList=τ.ck:=BJ (Rd.zero default (fun _=>False) τ)
theorem FR: ∀{τ:Ty} {n:Nat} {a:Ty},DJ τ n=some a→ ∃l m,τ.ck=l++(a.ck++m)∧l.length=oj τ n:=by
 intro τ
 induction τ with
 |pair a b _ PF=>
  intro n c h
  cases n with
  |zero=>cases h;exact⟨[],b.ck,rfl,rfl⟩
  |succ n=>
   obtain⟨l,m,h1,h2⟩:=PF (n:=n) (a:=c) h
   refine⟨a.ck++l,m,by simp only[Ty.ck];rw[h1,List.append_assoc],?_⟩
   rw[List.length_append,h2,(Rd.zero default (fun _=>False) a).length];rfl
 |_=>intro n c h;simp[DJ]at h
theorem uV: ∀{p:List Step} {τ υ:Ty},eE p τ υ=true→ ∃l m,τ.ck=l++(υ.ck++m)∧l.length=bM p τ
 |[],τ,υ,h=>by
  have h:=of_decide_eq_true h
  subst h
  exact⟨[],[],by simp,rfl⟩
 | .gX n::p,τ,υ,h=>by
  unfold eE at h
  split at h
  ·rename_i a ha
   obtain⟨l,m,h1,h2⟩:=FR ha
   obtain⟨l',m',h3,h4⟩:=uV h
   obtain⟨_,_,hf⟩:=pE ha τ.zero
   have:=hf.eq.1
   subst this
   refine⟨l++l',m'++m,by rw[h1,h3];simp,?_⟩
   rw[List.length_append,h2,h4];rfl
  ·cases h
 | .idx _::_,_,_,h=>by simp[eE]at h
theorem Cq{p:List Step}{τ e:Ty}(h:eE p τ (.slice e)=true):τ.ck[bM p τ]? =some (.slice none 0 0):=by
 obtain⟨l,m,h1,h2⟩:=uV h
 rw[h1,List.getElem?_append_right (by omega),h2,Nat.sub_self];rfl
theorem bK{b:Bool}{K:Option α}(h:cond b K none=some r):b=true∧K=some r:=by
 cases b
 ·cases h
 ·exact⟨rfl,h⟩
theorem LV{τ:Ty}{q:List Step}{e:Ty}(h:lkT E τ=some (q,e)):eE q τ (.slice e)=true:=by
 unfold lkT at h
 split at h
 ·rename_i υ q' e' _ _
  cases hd:decide (υ=τ)<;>rw[hd]at h
  ·cases h
  ·simp only[cond_true]at h
   cases hp:eE q' τ (.slice e')<;>rw[hp]at h
   ·cases h
   ·cases h;exact hp
 ·cases h
theorem pM{τ:Ty}{id:Nat}{q:List Step}{e:Ty}(h:DL E τ id=some (q,e)):eE q τ (.slice e)=true:=by
 unfold DL at h
 split at h
 ·exact LV (bK h).2
 ·cases h
theorem zx{H:Nat→Option aR}{id:Nat}{τ:Ty}{x:τ.den}{q:List Step}{e:Ty}{K:fG α}(h:yk H id τ x q e K=some r):H id=none∧H (id+1)=none∧K (.fP id []) [id,id+1] [(id,some (.dW τ x q (id+1))),(id+1,some (.own e []))]=some r:=by
 unfold yk at h
 obtain⟨h1,h⟩:=iE h
 obtain⟨h2,h⟩:=iE h
 exact⟨h1,h2,h⟩
theorem Nj{H:Nat→Option aR}{i j:Nat}{u v:Option aR}(h:i≠j):bs (bs H i u) j v=bs (bs H j v) i u:=by
 funext k
 by_cases hi:k=i
 ·subst hi;rw[an _ _ h,ak,ak]
 ·by_cases hj:k=j
  ·subst hj;rw[ak,an _ _ hi,ak]
  ·rw[an _ _ hj,an _ _ hi,an _ _ hi,an _ _ hj]
theorem tP{H:Nat→Option aR}{i:Nat}{u v:Option aR}:bs (bs H i u) i v=bs H i v:=by
 funext k
 by_cases hi:k=i
 ·subst hi;rw[ak,ak]
 ·rw[an _ _ hi,an _ _ hi,an _ _ hi]
theorem Tr.PH{H:Nat→Option aR}(h:Mem c H w M ν){id k:Nat}(hk:H k=none){τ:Ty}{x:τ.den}(aU:H id=some (.obj τ x)){b:Nat}{cs:Array Value}{t:TypeId}(hb:ν id= .pointer (some ⟨b,0,none⟩))(hg:w.heap[b]? =some (.cells cs t (0,0)))
  {q:List Step} {e:Ty} (hq:eE q τ (.slice e)=true) {ad:Option Addr} (hz:cs.toList[bM q τ]? =some (.slice ad 0 0)):
  Tr c H w M ν (b8 H [(id,some (.dW τ x q k)),(k,some (.own e []))]) w M (cr ν k (.slice ad 0 0)):=by
 have gi:k≠id:=fun e=>by rw[e,aU]at hk;cases hk
 have h2:=Tr.nothing h hk e ad
 have hd2:bs H k (some (.own e [])) id=some (.obj τ x):=by rw[an _ _ (Ne.symm gi)];exact aU
 have hν:cr ν k (.slice ad 0 0) id= .pointer (some ⟨b,0,none⟩):=by unfold cr;rw[if_neg (Ne.symm gi)];exact hb
 have hν1:cr ν k (.slice ad 0 0) k= .slice ad 0 0:=by simp[cr]
 have he:=h2.mem.jj id _ hd2
 simp only[ER]at he
 obtain⟨b',cs',t',dF,hg',hM,iq⟩:=he
 rw[hν]at dF;cases dF
 rw[hg]at hg';cases hg'
 have h3:=Tr.Ng h2.mem hd2 trivial (e':= .dW τ x q k) trivial rfl (fun _ _=>by simp) (by
   rw[hν];simp only[ER]
   exact⟨_,cs,t,cs.toList,.slice ad 0 0,rfl,hg,hM,iq,(FM hz).symm,rfl,e,hq⟩)
  (fun τ' x' p' j' hl=>by
   cases hl
   refine⟨by rw[ak];simp,_,hν,?_⟩
   rw[hν1,cell_of hg,←Array.getElem?_toList];exact hz)
 rw[Nj (i:=k) (j:=id) gi]at h3
 exact h2.trans h3
theorem Tr.yk{H:Nat→Option aR}(h:Mem c H w M ν){id:Nat}(aU:H id=none)(ma:H (id+1)=none)(t:TypeId){τ:Ty}{cs:Array Value}{x:τ.den}(hr:Rd w M τ cs.toList x){q:List Step}{e:Ty}(hq:eE q τ (.slice e)=true){ad:Option Addr}
  (hz:cs.toList[bM q τ]? =some (.slice ad 0 0)):
  ∃M' ν',Tr c H w M ν (b8 H [(id,some (.dW τ x q (id+1))),(id+1,some (.own e []))]) (w.alloc (.cells cs t)) M' ν'∧ν' id= .pointer (some ⟨w.heap.size,0,none⟩):=by
 have h1:=Tr.var h aU t hr
 have h2:=Tr.PH h1.mem (id:=id) (k:=id+1) (by rw[an _ _ (by omega)];exact ma) (ak _ _ _) (by simp[cr]) (zt w _) hq hz
 have e1:b8 (bs H id (some (.obj τ x))) [(id,some (.dW τ x q (id+1))),(id+1,some (.own e []))]=b8 H [(id,some (.dW τ x q (id+1))),(id+1,some (.own e []))]:=by
  show bs (bs (bs H id _) id _) (id+1) _=bs (bs H id _) (id+1) _
  rw[tP]
 rw[e1]at h2
 exact⟨_,_,h1.trans h2,by simp[cr]⟩
theorem PI(hE:EnvTy P E)(hc:Core c σ a.tmps w M ν){t:TypeId}(ho:o.op= .alloc t){K:fG α}{τ:Ty}(ht:E.ty t=some τ){id:Nat}
  (h:(match DL E τ id with
   |some (q,e)=>yk σ.H id τ τ.zero q e K
   |none=>nn σ.H id (.obj τ τ.zero) (K (.fP id []) [id] [(id,some (.obj τ τ.zero))]))=some r) (hn:dU c σ a o w M ν K r next):o.wp P a w next Q:=by
 obtain⟨i,hi,hs,hz,_⟩:=(hE.ty t τ ht).base
 have hr:Rd w M τ (bQ τ τ.ck).cells.toList τ.zero:=by rw[eJ];exact Rd.zero w M τ
 split at h
 ·rename_i q e pH
  obtain⟨aU,ma,h⟩:=zx h
  obtain⟨M',ν',eZ,hν⟩:=Tr.yk hc.mem aU ma t hr (pM pH) (by rw[eJ];exact Cq (pM pH))
  refine aN (uT ho hi hz w) (hn _ _ _ _ _ M' ν' h eZ ?_)
  exact VR.PG (by show bs _ (id+1) _ id=_;rw[an _ _ (by omega),ak]) hν
 ·obtain⟨aU,h⟩:=iE h
  refine aN (uT ho hi hz w) (hn _ _ _ _ _ _ _ h (Tr.var hc.mem aU t hr) (VR.aaa (ak _ _ _) (by simp[cr])))
theorem LW(hE:EnvTy P E)(hc:Core c σ a.tmps w M ν){t:TypeId}{x:Operand}(ho:o.op= .box t x){K:fG α}{τ:Ty}{id:Nat}
  (h:iV true (σ.ρ x) σ.H τ (fun y rd ups=>nn σ.H id (.obj τ y) (K (.fP id []) (id::rd) (ups++[(id,some (.obj τ y))])))=some r) (hn:dU c σ a o w M ν K r next):o.wp P a w next Q:=by
 obtain⟨y,rd,ups,M',h,eZ,hV,hz,_⟩:=kC (.refl _) hc.mem (hc.ev x) h
 obtain⟨aU,h⟩:=iE h
 have abh:b8 σ.H ups id=none:=hz.none aU
 have rM:=eZ.trans (Tr.var eZ.mem abh t hV.cells)
 refine aN (zu ho w) (hn _ _ _ _ _ (fun b=>M' b∨b=w.heap.size) (cr ν id (.pointer (some ⟨w.heap.size,0,none⟩))) h ?_ ?_)
 ·rw[eb];exact rM
 ·rw[eb];exact VR.aaa (ak _ _ _) (by simp[cr])
theorem abi(hE:EnvTy P E)(hc:Core c σ a.tmps w M ν){t:TypeId}{x:Operand}(ho:o.op= .box t x){K:fG α}{τ:Ty}{id:Nat}
  (h:(match DL E τ id,σ.ρ x with
   |some ([.gX m],e),.DK υ y n=>cond (Nat.beq m n) (ch υ τ y fun y=>yk σ.H id τ y [.gX m] e K) (iV true (σ.ρ x) σ.H τ (fun y rd ups=>nn σ.H id (.obj τ y) (K (.fP id []) (id::rd) (ups++[(id,some (.obj τ y))]))))
   |_,_=>iV true (σ.ρ x) σ.H τ (fun y rd ups=>nn σ.H id (.obj τ y) (K (.fP id []) (id::rd) (ups++[(id,some (.obj τ y))]))))=some r) (hn:dU c σ a o w M ν K r next):o.wp P a w next Q:=by
 split at h
 ·rename_i m e υ y n pH hx
  cases hb:Nat.beq m n
  ·rw[hb]at h
   exact LW hE hc ho h hn
  ·rw[hb]at h
   have zy:=Nat.eq_of_beq_eq_true hb
   subst zy
   simp only[cond_true]at h
   obtain⟨e1,h⟩:=bc h
   subst e1
   obtain⟨aU,ma,h⟩:=zx h
   have hv:=hc.ev x
   rw[hx]at hv
   simp only[VR]at hv
   obtain⟨hV,cs,ad,hva,hz⟩:=hv
   have DT:(a.eval x).cells.toList=cs.toList:=by rw[hva];rfl
   obtain⟨M',ν',eZ,hν⟩:=Tr.yk hc.mem aU ma t hV.cells (pM pH) (ad:=ad) (by rw[DT];simpa [bM]using hz)
   refine aN (zu ho w) (hn _ _ _ _ _ M' ν' h eZ ?_)
   exact VR.PG (by show bs _ (id+1) _ id=_;rw[an _ _ (by omega),ak]) hν
 ·exact LW hE hc ho h hn
theorem qg{i:Int}{n:Nat}(h:aL i n=true):0≤i∧i<(n:Int):=by rw[JV]at h;simpa using h
theorem jk{b:Bool}{K:Option α}(h:cond b none K=some r):b=false∧K=some r:=by
 cases b
 ·exact⟨rfl,h⟩
 ·cases h
theorem xp(hm:Mem c σ.H w M ν){x:a6}{u:Value}(hv:VR w M σ.H ν x u){K:(υ:Ty)→υ.den→List Nat→Option α}(h:im x σ.H K=some r):
  ∃υ y rd,K υ y rd=some r∧ ∃b off cs,u= .pointer (some ⟨b,off,none⟩)∧At w b off cs∧Rd w M υ cs y:=by
 unfold im at h
 split at h
 ·simp only[VR]at hv
  obtain⟨b,off,rfl,_,_,cs,ha,hr⟩:=hv
  exact⟨_,_,_,h,b,off,cs,rfl,ha,hr⟩
 ·rename_i id p
  simp only[VR]at hv
  obtain⟨e,he,kf⟩:=hv
  have jy:=hm.jj id e he
  rw[he]at h
  cases e with
  |obj τ x=>
   obtain⟨υ,y,o',hp,hK⟩:=gG h
   simp only[AR]at kf
   obtain⟨hi,b,hb,rfl⟩:=kf
   simp only[ER]at jy
   obtain⟨b',cs,t,dF,hg,_,hr⟩:=jy
   rw[hb]at dF;cases dF
   have:=hp.eq.2
   subst this
   exact⟨υ,y,_,hK,b,_,_,rfl,At.of_block hg _ _,hp.rd hi hr⟩
  |own e l=>
   simp only[AR]at kf
   obtain⟨i,q,rfl,BO,hi,b,n,cp,hb,rfl⟩:=kf
   obtain⟨υ,y,o',hp,hK⟩:=gG h
   simp only[ER]at jy
   rcases jy with⟨rfl,_⟩|⟨b',cs,t,cap,dF,hg,_,Pp,hl,BL,hs,hr⟩
   ·simp at BO
   ·rw[hb]at dF;cases dF
    have:=hp.eq.2
    subst this
    have h1:=hr i BO
    rw[←g6 l i e.zero BO]at h1
    have h2:=hp.rd hi h1
    have h3:=hp.bound hi
    rw[List.drop_take,List.drop_drop,List.take_take,Nat.min_eq_left (by omega)]at h2
    exact⟨υ,y,_,hK,b,_,_,rfl,At.of_block hg _ _,h2⟩
  |la e l=>
   simp only[AR]at kf
   obtain⟨i,q,rfl,BO,hi,b,n,cp,hb,rfl⟩:=kf
   obtain⟨υ,y,o',hp,hK⟩:=gG h
   simp only[ER]at jy
   have iq:=jy.1
   simp only[Rd,List.cons.injEq,and_true]at iq
   obtain⟨a0,cap,ha0,_,hr⟩:=iq
   obtain⟨b',off,rfl,_,_,cs,ld,S5⟩:=hr i BO
   rw[hb]at ha0;cases ha0
   have:=hp.eq.2
   subst this
   rw[Nat.zero_add]at ld
   have agB:Rd w M e cs (List.getD l i e.zero):=by rw[g6 l i e.zero BO];exact S5
   have h2:=hp.rd hi agB
   have h3:=hp.bound hi
   have TE:=agB.length
   refine⟨υ,y,_,hK,b,_,_,rfl,?_,h2⟩
   intro j v hj
   rw[List.getElem?_take]at hj
   split at hj
   ·rw[List.getElem?_drop]at hj
    have:=ld _ v hj
    rwa [←Nat.add_assoc]at this
   ·cases hj
  |dW _ _ _ _=>cases h
  |gone=>cases h
 ·cases h
theorem Mem.linked{H:Nat→Option aR}(hm:Mem c H w M ν){id:Nat}{τ:Ty}{x:τ.den}{q:List Step}{j:Nat}(aU:H id=some (.dW τ x q j)):
  ∃b cs t oG e,ν id= .pointer (some ⟨b,0,none⟩)∧w.heap[b]? =some (.cells cs t (0,0))∧M b∧Rd w M τ oG x∧cs.toList=dq oG (bM q τ) [ν j]∧(ν j).oneCell'=true∧eE q τ (.slice e)=true∧bM q τ<oG.length∧H j≠none:=by
 have jy:=hm.jj id _ aU
 simp only[ER]at jy
 obtain⟨b,cs,t,oG,u,hb,hg,hM,hr,DT,h1,e,hq⟩:=jy
 obtain⟨hj,b',dF,LX⟩:=hm.dW id _ _ _ _ aU
 rw[hb]at dF;cases dF
 obtain⟨y,o,hp⟩:=pF hq x
 have dT:bM q τ<oG.length:=by
  have:=hp.bound (g7 hq).1
  have h2:=hp.eq.2
  have h3:=hr.length
  have:(Ty.slice e).size=1:=rfl
  omega
 have hu:u=ν j:=by
  rw[cell_of hg,←Array.getElem?_toList,DT,yY dT]at LX
  exact Option.some.inj LX
 subst hu
 exact⟨b,cs,t,oG,e,hb,hg,hM,hr,DT,h1,hq,dT,hj⟩
theorem tQ{H:Nat→Option aR}(hm:Mem c H w M ν){id:Nat}{τ:Ty}{x:τ.den}{q:List Step}{j:Nat}(aU:H id=some (.dW τ x q j)){k:τ.den→fF→Option α}(h:yj j q τ x H k=some r):
  ∃z ups M',k z ups=some r∧Tr c H w M ν (b8 H ups) w M' ν∧Fz H (b8 H ups)∧((∃e l,H j=some (.la e l)∧ups=[])∨ ∃e l,H j=some (.own e l)∧ups=[(j,some (.la e l))])∧ ∃b cs t,ν id= .pointer (some ⟨b,0,none⟩)∧w.heap[b]? =some (.cells cs t (0,0))∧M' b∧Rd w M' τ cs.toList z:=by
 obtain⟨b,cs,t,oG,e0,hb,hg,hM,hr,DT,h1,hq,dT,hj⟩:=hm.linked aU
 have PJ:=(g7 hq).1
 unfold yj at h
 split at h
 ·rename_i e l BE
  obtain⟨z,hz,BP,BD,th⟩:=lB h
  obtain⟨M',eZ,hV,hM'⟩:=Tr.freeze hm BE
  refine⟨z,_,M',hz,eZ,fun i=> ?_,.inr ⟨e,l,BE,rfl⟩,b,cs,t,hb,hg,?_,?_⟩
  ·by_cases hi:i=j
   ·subst hi;exact .inr ⟨e,l,BE,ak _ _ _⟩
   ·exact .inl (an _ _ hi)
  ·refine(hM' b).2 ⟨hM,fun hjb=> ?_⟩
   have gi:j≠id:=fun e=>by rw[e,aU]at BE;cases BE
   exact hm.wg j id _ _ b gi BE trivial aU trivial hjb (by rw[hb];rfl)
  ·rw[DT]
   exact th w M' oG [ν j] PJ (hr.bx eZ.bx) (V.slice.1 hV)
 ·rename_i e l BE
  obtain⟨z,hz,BP,BD,th⟩:=lB h
  have jy:=hm.jj j _ BE
  simp only[ER]at jy
  refine⟨z,_,M,hz,.refl hm,.refl H,.inl ⟨e,l,BE,rfl⟩,b,cs,t,hb,hg,hM,?_⟩
  rw[DT]
  exact th w M oG [ν j] PJ hr jy.1
 ·cases h
theorem afV{τ υ:Ty}{t:TypeId}(hE:EnvTy P E)(ht:E.ty t=some τ)(h:eE ([]:List Step) υ τ=true):υ=τ:=of_decide_eq_true h
theorem Rd.abk{e:Ty}{v:Value}{cs:List Value}{l:List e.den}(h:Rd w M (.slice e) cs l): ∃a n cap,cs=[.slice a n cap]:=by
 simp only[Rd]at h
 obtain⟨a,cap,rfl,_⟩:=h
 exact⟨a,_,cap,rfl⟩
theorem BQ{ρ:Operand→Value}{t:TypeId}{x:Operand}(ho:o.op= .load t x){τ:Ty}(h:g5 P τ t)(ha:τ.isAgg=false){b off:Nat}{v:Value}(hx:ρ x= .pointer (some ⟨b,off,none⟩))(hc:w.cell? ⟨b,off,none⟩=some v):
  (execOp ρ o).run P w= .ok (.value v) w:=by
 have:(loadVar t ⟨b,off,none⟩).run P w= .ok v w:=by
  simp[loadVar,pJ h,ha,load,Sem.run,hc]
 simp[execOp,ho,hx,Instr.loadAt,Instr.sureAddr,this]
theorem FT(hE:EnvTy P E)(hc:Core c σ a.tmps w M ν){t:TypeId}{x:Operand}(ho:o.op= .load t x){K:fG α}{τ:Ty}(ht:E.ty t=some τ)
  (h:im (σ.ρ x) σ.H (fun υ y rd=>ch υ τ y fun z=>K (.val τ z) rd [])=some r) (hn:dU c σ a o w M ν K r next):o.wp P a w next Q:=by
 obtain⟨υ,y,rd,h,b,off,cs,hu,ld,hr⟩:=xp hc.mem (hc.ev x) h
 obtain⟨e,h⟩:=bc h
 subst e
 refine aN (rK ho (hE.ty t _ ht) hu ld hr) (hn _ _ _ _ _ _ _ h (.refl hc.mem) ?_)
 simp only[VR]
 exact V.bQ hr
theorem TG(hE:EnvTy P E)(hc:Core c σ a.tmps w M ν){t:TypeId}{x:Operand}(ho:o.op= .load t x){K:fG α}{τ:Ty}(ht:E.ty t=some τ)
  (h:q6 τ (σ.ρ x) σ.H K=some r) (hn:dU c σ a o w M ν K r next):o.wp P a w next Q:=by
 unfold q6 at h
 simp only at h
 split at h
 ·rename_i id p hx
  split at h
  ·rename_i υ z q j aU
   have hv:=hc.ev x
   rw[hx]at hv
   simp only[VR]at hv
   obtain⟨e1,J0,kf⟩:=hv
   rw[aU]at J0;cases J0
   simp only[AR]at kf
   obtain⟨hi,b,hb,hu⟩:=kf
   obtain⟨b',cs,te,oG,e0,dF,hg,hM,hr,DT,h1,hq,dT,hj⟩:=hc.mem.linked aU
   rw[hb]at dF;cases dF
   cases hp:FD p q
   ·rw[hp]at h
    cases BA:tb p q
    ·
     rw[BA]at h
     simp only[cond_false]at h
     obtain⟨υ',y,o',ti,h⟩:=gG h
     obtain⟨e2,h⟩:=bc h
     subst e2
     have hap:=ti.apart hi hq BA
     have TC:=ti.eq.2
     subst TC
     have BD:=ti.bound hi
     have hlen:=hr.length
     have iq:Rd w M υ' ((cs.toList.drop (bM p υ)).take υ'.size) y:=by
      rw[DT,DQ (by simp only[List.length_singleton];omega) (by simp only[List.length_singleton];omega)]
      exact ti.rd hi hr
     refine aN (rK ho (hE.ty t _ ht) hu (At.of_block hg _ _) iq) (hn _ _ _ _ _ M ν h (.refl hc.mem) ?_)
     simp only[VR]
     exact V.bQ iq
    ·
     rw[BA]at h
     simp only[cond_false,cond_true]at h
     obtain⟨z',ups,M',h,eZ,_,_,b2,cs2,t2,tg,Nk,DU,Fo⟩:=tQ hc.mem aU h
     rw[hb]at tg;cases tg
     rw[hg]at Nk;cases Nk
     obtain⟨υ',y,o',ti,h⟩:=gG h
     obtain⟨e2,h⟩:=bc h
     subst e2
     have TC:=ti.eq.2
     subst TC
     have iq:=ti.rd hi Fo
     refine aN (rK ho (hE.ty t _ ht) hu (At.of_block hg _ _) iq) (hn _ _ _ _ _ M' ν h eZ ?_)
     simp only[VR]
     exact V.bQ iq
   ·
    rw[hp]at h
    have:=wx hp
    subst this
    simp only[cond_true]at h
    obtain⟨hpq,hK⟩:=bK h
    have hτ:τ= .slice e0:=(g7 hpq).2.symm.trans (g7 hq).2
    subst hτ
    have LX:w.cell? ⟨b,bM p υ,none⟩=some (ν j):=by rw[cell_of hg,←Array.getElem?_toList,DT,yY dT]
    refine aN (BQ ho (hE.ty t _ ht) rfl hu LX) (hn _ _ _ _ _ M ν hK (.refl hc.mem) ?_)
    simp only[VR]
    exact⟨hj,trivial⟩
  ·exact FT hE hc ho ht h hn
 ·exact FT hE hc ho ht h hn
end VM
end
section
namespace VM
open Go
variable{P:Program}{E:Env}{o:Oper}{a:Act}{w:World}{M:Nat→Prop}{ν:Nat→Value}{σ:St}{c:Ctx}{α:Type}{r:α}{next:Act→World→Prop}{Q:Exit→Act→World→Prop}
theorem Fz.own{H H1:Nat→Option aR}(h:Fz H H1){i:Nat}{e:Ty}{l:List e.den}(hi:H i=some (.own e l)):H1 i=some (.own e l)∨H1 i=some (.la e l):=by
 rcases h i with h'|⟨e',l',h1,h2⟩
 ·exact .inl (by rw[h',hi])
 ·rw[hi]at h1;cases h1;exact .inr h2
theorem Nl(hE:EnvTy P E)(hc:Core c σ a.tmps w M ν){t:TypeId}{x y:Operand}(ho:o.op= .store t x y){K:fG α}{τ:Ty}(ht:E.ty t=some τ)
  (h:iX τ (σ.ρ x) (σ.ρ y) σ.H K=some r) (hn:dU c σ a o w M ν K r next):o.wp P a w next Q:=by
 unfold iX at h
 split at h
 ·rename_i id p hx
  obtain⟨z,rd,ups,M',h,eZ,hV,hz,iq⟩:=kC (.refl _) hc.mem (hc.ev y) h
  have hv:=hc.ev x
  rw[hx]at hv
  have hvz:=VR.bx eZ.bx eZ.goes hv
  have uW:=hE.ty t τ ht
  have Fp:=hV.cells.length
  rw[Array.length_toList]at Fp
  split at h
  ·rename_i υ x0 aU
   have ma:=hz.obj aU
   obtain⟨x1,hK,BP,BD,th⟩:=lB h
   simp only[VR]at hvz
   obtain⟨e1,J0,kf⟩:=hvz
   rw[ma]at J0;cases J0
   simp only[AR]at kf
   obtain⟨hi,b,hb,hu⟩:=kf
   have jy:=eZ.mem.jj id _ ma
   simp only[ER]at jy
   obtain⟨b',cs,te,dF,hg,hM,hr⟩:=jy
   rw[hb]at dF;cases dF
   have BD:=BD hi
   have TE:=hr.length
   rw[Array.length_toList]at TE
   have cI:=jM (P:=P) ho uW hu hg Fp (by omega) hV.cells.lf
   rw[Array.length_toList]at cI
   have rM:Tr c (b8 σ.H ups) w M' ν (bs (b8 σ.H ups) id (some (.obj υ x1))) (w.setRow b (dq cs.toList (bM p υ) (a.eval y).cells.toList).toArray) M' ν:=by
    refine Tr.write (e':= .obj υ x1) eZ.mem ma trivial trivial rfl (by rw[hb];rfl) hg fun Jz hk wA=> ?_
    simp only[ER]
    refine⟨b,_,te,hb,setRow_heap w b cs _ te _ hg,wA,?_⟩
    exact(th w M' cs.toList _ hi hr hV.cells).bx hk
   refine nv cI ?_
   refine hn _ _ _ _ _ M' ν hK ?_ (by simp[VR])
   rw[eb]
   have:=eZ.trans rM
   unfold dq at this
   rw[Array.length_toList]at this
   exact this
  ·rename_i e l aU
   split at h
   ·rename_i i q h0
    obtain⟨yq,h⟩:=jk h
    have ma:b8 σ.H ups id=some (.own e l):=by rw[iq id yq];exact aU
    obtain⟨y1,hK,BP,BD,th⟩:=lB h
    simp only[VR]at hvz
    obtain⟨e1,J0,kf⟩:=hvz
    rw[ma]at J0;cases J0
    simp only[AR]at kf
    obtain⟨i',q',hpq,BO,hi,b,n,cp,hb,hu⟩:=kf
    cases hpq
    have jy:=eZ.mem.jj id _ ma
    simp only[ER]at jy
    rcases jy with⟨rfl,_⟩|⟨b',cs,te,cap,dF,hg,hM,Pp,hl,BL,hs,hr⟩
    ·simp at BO
    ·rw[hb]at dF;cases dF
     have BD:=BD hi
     have pG:=cY (s:=e.size) BO
     have uS:l.length*e.size≤cp*e.size:=Nat.mul_le_mul_right _ hl
     have cI:=jM (P:=P) ho uW hu hg Fp (by omega) hV.cells.lf
     rw[Array.length_toList]at cI
     have hri:=hr i BO
     rw[←g6 l i e.zero BO]at hri
     have om:=th w M' _ _ hi hri hV.cells
     have hch:((cs.toList.drop (i*e.size)).take e.size).length=e.size:=hri.length
     have TH:dq cs.toList (i*e.size) (dq ((cs.toList.drop (i*e.size)).take e.size) (bM q e) (a.eval y).cells.toList)=dq cs.toList (i*e.size+bM q e) (a.eval y).cells.toList:=by
      have S4:=om.length
      have e1:cs.toList=cs.toList.take (i*e.size)++(((cs.toList.drop (i*e.size)).take e.size)++cs.toList.drop (i*e.size+e.size)):=by
       rw[←List.drop_drop,List.take_append_drop,List.take_append_drop]
      have dT:(cs.toList.take (i*e.size)).length=i*e.size:=by rw[List.length_take,Array.length_toList];omega
      conv=>rhs;rw[e1]
      rw[show i*e.size+bM q e=(cs.toList.take (i*e.size)).length+bM q e from by rw[dT],sH,uQ (by rw[hch,Array.length_toList];omega)]
      generalize dq ((cs.toList.drop (i*e.size)).take e.size) (bM q e) (a.eval y).cells.toList=m at S4 ⊢
      unfold dq
      rw[S4,List.append_assoc]
     have rM:Tr c (b8 σ.H ups) w M' ν (bs (b8 σ.H ups) id (some (.own e (List.set l i y1)))) (w.setRow b (dq cs.toList (i*e.size+bM q e) (a.eval y).cells.toList).toArray) M' ν:=by
      refine Tr.write (e':= .own e (List.set l i y1)) eZ.mem ma trivial trivial ⟨rfl,by rw[List.length_set]⟩ (by rw[hb];simp[ez];omega) hg fun Jz hk wA=> ?_
      simp only[ER]
      refine .inr ⟨b,_,te,cp,by rw[List.length_set];exact hb,setRow_heap w b cs _ te _ hg,wA,Pp,by rw[List.length_set];exact hl,BL,?_,?_⟩
      ·rw[←TH,List.size_toArray,ep (by rw[om.length,Array.length_toList];omega),Array.length_toList];exact hs
      ·have h9:cs.toList.length=cp*e.size:=by rw[Array.length_toList,hs]
       have h10:=nu.set (w:=w) (M:=M') (cs:=cs.toList) (l:=l) hr (by rw[h9];exact uS) BO om
       rw[TH]at h10
       exact fun j hj=>(h10 j hj).bx hk
     refine nv cI ?_
     refine hn _ _ _ _ _ M' ν hK ?_ (by simp[VR])
     rw[eb]
     have:=eZ.trans rM
     unfold dq at this
     rw[Array.length_toList]at this
     exact this
   ·cases h
  ·cases h
 ·cases h
theorem Fz.dW{H H1:Nat→Option aR}(h:Fz H H1){i:Nat}{τ:Ty}{x:τ.den}{p:List Step}{j:Nat}(hi:H i=some (.dW τ x p j)):H1 i=some (.dW τ x p j):=by
 rcases h i with h'|⟨e',l',h1,h2⟩
 ·rw[h',hi]
 ·rw[hi]at h1;cases h1
theorem tR{β:Type}{l a:List β}{o:Nat}(hl:o+a.length≤l.length)(i:Nat):(dq l o a)[i]? =if o≤i∧i<o+a.length then a[i-o]? else l[i]? :=by
 unfold dq
 by_cases h1:i<o
 ·rw[if_neg (by omega),List.append_assoc,List.getElem?_append_left (by simp;omega),List.getElem?_take,if_pos h1]
 ·by_cases h2:i<o+a.length
  ·rw[if_pos (by omega),List.getElem?_append_left (by simp;omega),List.getElem?_append_right (by simp;omega)]
   simp[Nat.min_eq_left (show o≤l.length by omega)]
  ·rw[if_neg (by omega),List.getElem?_append_right (by simp;omega)]
   simp only[List.length_append,List.length_take,Nat.min_eq_left (show o≤l.length by omega),List.getElem?_drop]
   congr 1;omega
theorem FU{β:Type}{l a b:List β}{o o':Nat}(h:o'≤o∧o+a.length≤o'+b.length)(h1:o+a.length≤l.length)(h2:o'+b.length≤l.length):dq (dq l o a) o' b=dq l o' b:=by
 have l1:=ep (a:=l) (o:=o) (new:=a) h1
 apply List.ext_getElem?
 intro i
 rw[tR (by omega),tR (by omega),tR (by omega)]
 by_cases c1:o'≤i∧i<o'+b.length
 ·rw[if_pos c1,if_pos c1]
 ·rw[if_neg c1,if_neg c1,if_neg (by omega)]
theorem Cr{β:Type}{l:List β}{o:Nat}{u v:β}(h:o<l.length):dq (dq l o [u]) o [v]=dq l o [v]:=
 FU (by simp) (by simp;omega) (by simp;omega)
theorem PK{β:Type}{l a b:List β}{o o':Nat}(h:o+a.length≤o'∨o'+b.length≤o)(h1:o+a.length≤l.length)(h2:o'+b.length≤l.length):dq (dq l o a) o' b=dq (dq l o' b) o a:=by
 have l1:=ep (a:=l) (o:=o) (new:=a) h1
 have l2:=ep (a:=l) (o:=o') (new:=b) h2
 apply List.ext_getElem?
 intro i
 rw[tR (by omega),tR (by omega),tR (by omega),tR (by omega)]
 by_cases c1:o'≤i∧i<o'+b.length
 ·rw[if_pos c1,if_neg (by omega),if_pos c1]
 ·rw[if_neg c1]
  by_cases c2:o≤i∧i<o+a.length
  ·rw[if_pos c2,if_pos c2]
  ·rw[if_neg c2,if_neg c2,if_neg c1]
theorem FV{m:(υ:Ty)→υ.den→(υ.den→Option α)→Option α}: ∀{τ:Ty} {x:τ.den} {n:Nat} {k:τ.den→Option α},jJ τ x n m k=some r→ ∃υ y o k',yl τ x n υ y o∧m υ y k'=some r:=fun h=>by
 obtain⟨υ,y,o,k',h1,h2,_⟩:=oL h
 exact⟨υ,y,o,k',h1,h2⟩
theorem zz{υ:Ty}{u:υ.den}: ∀{p:List Step} {τ:Ty} {x:τ.den} {k:τ.den→Option α},rm υ u p τ x k=some r→ ∃y o,DP p τ x υ y o
 |[],τ,x,k,h=>by
  obtain⟨e,_⟩:=bc (h:ch υ τ u k=some r)
  subst e
  exact⟨x,0,.nil x⟩
 | .gX n::p,τ,x,k,h=>by
  obtain⟨υ',y,o,k',hf,hm⟩:=FV (h:jJ τ x n _ k=some r)
  obtain⟨y',o',hp⟩:=zz (k:=k') hm
  exact⟨y',_,.gX hf hp⟩
 | .idx i::p,τ,x,k,h=>by
  cases τ with
  |arr n e=>
   obtain⟨y',o',hp⟩:=zz (p:=p) (τ:=e) (x:=List.getD x i e.zero) (k:=fun z=>k (List.set x i z)) h
   exact⟨y',_,.idx hp⟩
  |_=>simp[rm,yU]at h
theorem Cs: ∀{p q:List Step} {τ e:Ty},tb p q=true→eE q τ (.slice e)=true→bM p τ≤bM q τ∧bM q τ+1≤bM p τ+(BK p τ).size
 |[],q,τ,e,_,hq=>by
  obtain⟨_,_,ti⟩:=pF hq τ.zero
  have:=ti.bound (g7 hq).1
  have h2:=ti.eq.2
  have:(Ty.slice e).size=1:=rfl
  simp only[bM,BK]
  omega
 | .gX a::p,.gX b::q,τ,e,hp,hq=>by
  simp only[tb,Bool.and_eq_true]at hp
  have:=Nat.eq_of_beq_eq_true hp.1
  subst this
  unfold eE at hq
  split at hq
  ·rename_i c hc
   obtain⟨_,_,hf⟩:=pE hc τ.zero
   have:=hf.eq.1
   subst this
   have:=Cs hp.2 hq
   simp only[bM,BK]
   omega
  ·cases hq
 | .gX _::_,[],_,_,hp,_| .gX _::_,.idx _::_,_,_,hp,_| .idx _::_,_,_,_,hp,_=>by simp[tb]at hp
theorem ER.Nm{H:Nat→Option aR}(hm:Mem c H w M ν){k:Nat}{e:Ty}{l:List e.den}(hk:H k=some (.own e l)): ∃ad cp,ν k= .slice ad l.length cp:=by
 have:=hm.jj k _ hk
 simp only[ER]at this
 rcases this with⟨rfl,a,hv⟩|⟨b,cs,t,cap,hv,_⟩
 ·exact⟨a,0,hv⟩
 ·exact⟨_,cap,hv⟩
theorem zA(hE:EnvTy P E)(hc:Core c σ a.tmps w M ν){t:TypeId}{x y:Operand}(ho:o.op= .store t x y){K:fG α}{τ:Ty}(ht:E.ty t=some τ){id k:Nat}{q:List Step}{e:Ty}{υ:Ty}{z:υ.den}
  (hx:σ.ρ x= .fP id q) (hy:σ.ρ y= .ref k) {en:aR} (aU:σ.H id=some en) (hen:en.mut) (Ct:en.iD (.dW υ z q k)) (hq:eE q υ (.slice e)=true)
  (mI: ∃b cs te oG u,ν id= .pointer (some ⟨b,0,none⟩)∧w.heap[b]? =some (.cells cs te (0,0))∧Rd w M υ oG z∧cs.toList=dq oG (bM q υ) [u])
  (h:xj τ id k e q υ z σ.H K=some r) (hn:dU c σ a o w M ν K r next):o.wp P a w next Q:=by
 unfold xj at h
 split at h
 ·rename_i e' l hk
  obtain⟨e1,h1⟩:=dN h
  clear h
  subst e1
  obtain⟨e2,h2⟩:=dN h1
  clear h1
  subst e2
  obtain⟨z',hK,BP,BD,th⟩:=lB h2
  obtain⟨b,cs,te,oG,u,hb,hg,hr,DT⟩:=mI
  have PJ:=(g7 hq).1
  obtain⟨ad,cp,hνk⟩:=ER.Nm hc.mem hk
  have yr:=hc.ev y
  rw[hy]at yr
  simp only[VR]at yr
  have yr:=yr.2
  have BD:=BD PJ
  have hlen:=hr.length
  have LY:(Ty.slice e').size=1:=rfl
  have dT:bM q υ<oG.length:=by omega
  have Fp:cs.toList.length=oG.length:=by rw[DT];exact ep (by simp;omega)
  have hv:=hc.ev x
  rw[hx]at hv
  simp only[VR]at hv
  obtain⟨e3,he3,kf⟩:=hv
  rw[aU]at he3;cases he3
  have kf:=kf.iD Ct
  simp only[AR]at kf
  obtain⟨_,b',dF,hu⟩:=kf
  rw[hb]at dF;cases dF
  have hyc:(a.eval y).cells.toList=[ν k]:=by rw[yr,hνk];rfl
  have p9:(a.eval y).cells.size=(Ty.slice e').size:=by rw[←Array.length_toList,hyc];rfl
  have cI:=jM (P:=P) ho (hE.ty t _ ht) hu hg p9 (by rw[←Array.length_toList];omega) (by rw[hyc,hνk];simp[Value.oneCell'])
  have om:(cs.toList.take (bM q υ)++(a.eval y).cells.toList++cs.toList.drop (bM q υ+(a.eval y).cells.toList.length))=dq oG (bM q υ) [ν k]:=by
   rw[hyc]
   show dq cs.toList (bM q υ) [ν k]=_
   rw[DT,Cr dT]
  rw[om]at cI
  have hrz:Rd w M υ (dq oG (bM q υ) [.slice none 0 0]) z':=th w M oG [.slice none 0 0] PJ hr (Rd.zero w M (.slice e'))
  have eZ:Tr c σ.H w M ν (bs σ.H id (some (.dW υ z' q k))) (w.setRow b (dq oG (bM q υ) [ν k]).toArray) M ν:=by
   refine Tr.write (e':= .dW υ z' q k) hc.mem aU hen trivial (by cases en<;>simp only[aR.iD]at Ct ⊢ <;>exact Ct) (by rw[hb];rfl) hg (fun Jz zB wA=> ?_) (fun τ' x' p' j' hl=> ?_)
   ·simp only[ER]
    refine⟨b,_,te,dq oG (bM q υ) [.slice none 0 0],ν k,hb,setRow_heap w b cs _ te _ hg,wA,hrz.bx zB,?_,by rw[hνk];rfl,e',hq⟩
    rw[Cr dT]
   ·cases hl
    refine⟨by rw[hk];simp,b,hb,?_⟩
    rw[cell_of (setRow_heap w b cs _ te _ hg),←Array.getElem?_toList]
    show(dq oG (bM q υ) [ν k])[bM q υ]? =_
    rw[yY dT]
  exact nv cI (hn _ _ _ _ _ M ν hK eZ (by simp[VR]))
 ·cases h
theorem zC(hE:EnvTy P E)(hc:Core c σ a.tmps w M ν){t:TypeId}{x y:Operand}(ho:o.op= .store t x y){K:fG α}{τ:Ty}(ht:E.ty t=some τ)
  (h:gE E τ (σ.ρ x) (σ.ρ y) σ.H K=some r) (hn:dU c σ a o w M ν K r next):o.wp P a w next Q:=by
 have hold:iX τ (σ.ρ x) (σ.ρ y) σ.H K=some r→o.wp P a w next Q:=fun h=>Nl hE hc ho ht h hn
 unfold gE at h
 simp only at h
 split at h
 ·rename_i id p hx
  have pL:=hx
  split at h
  ·rename_i υ z aU
   split at h
   ·rename_i q e k pH hy
    cases hp:FD p q
    ·rw[hp]at h;exact hold h
    ·rw[hp]at h
     simp only[cond_true]at h
     have:=wx hp
     subst this
     have hq:=pM pH
     have jy:=hc.mem.jj id _ aU
     simp only[ER]at jy
     obtain⟨b,cs,te,hb,hg,hM,hr⟩:=jy
     have dT:bM p υ<cs.toList.length:=by
      obtain⟨_,_,ti⟩:=pF hq z
      have:=ti.bound (g7 hq).1
      have h2:=ti.eq.2
      have:=hr.length
      have:(Ty.slice e).size=1:=rfl
      omega
     refine zA hE hc ho ht hx hy aU trivial rfl hq ⟨b,cs,te,cs.toList,cs.toList[bM p υ],hb,hg,hr,?_⟩ h hn
     exact(FM (List.getElem?_eq_getElem dT)).symm
   ·exact hold h
  ·rename_i υ z q j aU
   obtain⟨b,cs,te,oG,e0,hb,hg,hM,hr,DT,h1,hq,dT,hj⟩:=hc.mem.linked aU
   have uX:iV true (σ.ρ y) σ.H τ (fun y rd ups=>rm τ y p υ z fun z=>K .any (id::rd) (ups++[(id,some (cond (tb p q) (.obj υ z) (.dW υ z q j)))]))=some r→o.wp P a w next Q:=by
    intro h
    obtain⟨u,rd,ups,M',h,eZ,hV,hz,iq⟩:=kC (.refl _) hc.mem (hc.ev y) h
    have ma:=hz.dW aU
    have hv:=hc.ev x
    rw[hx]at hv
    have hvz:=VR.bx eZ.bx eZ.goes hv
    simp only[VR]at hvz
    obtain⟨e1,J0,kf⟩:=hvz
    rw[ma]at J0;cases J0
    simp only[AR]at kf
    obtain⟨hi,b1,ke,hu⟩:=kf
    rw[hb]at ke;cases ke
    obtain⟨b2,cs2,te2,cs3,e3,tg,Nk,DU,Fo,TI,h12,hq2,agH,hj2⟩:=eZ.mem.linked ma
    rw[hb]at tg;cases tg
    rw[hg]at Nk;cases Nk
    obtain⟨z',hK,BP,BD,th⟩:=lB h
    have BD:=BD hi
    have TE:=Fo.length
    have Fp:cs.toList.length=cs3.length:=by rw[TI];exact ep (by simp;omega)
    have hcy:=hV.cells.length
    rw[Array.length_toList]at hcy
    have att:(a.eval y).cells.toList.length=τ.size:=by rw[Array.length_toList];exact hcy
    have cI:=jM (P:=P) ho (hE.ty t _ ht) hu hg hcy (by rw[←Array.length_toList];omega) hV.cells.lf
    have PL:cs.toList.take (bM p υ)++(a.eval y).cells.toList++cs.toList.drop (bM p υ+(a.eval y).cells.toList.length)=dq cs.toList (bM p υ) (a.eval y).cells.toList:=rfl
    rw[PL]at cI
    have hzr:=th w M' cs3 _ hi Fo hV.cells
    have fin: ∀e',e'.mut→aR.iD (.dW υ z q j) e'→K .any (id::rd) (ups++[(id,some e')])=some r→(∀Jz,dp w M' (w.setRow b (dq cs.toList (bM p υ) (a.eval y).cells.toList).toArray) Jz→Jz b→ER (w.setRow b (dq cs.toList (bM p υ) (a.eval y).cells.toList).toArray) Jz (ν id) e')→
      (∀τ' x' p' j',e'= .dW τ' x' p' j'→(b8 σ.H ups) j'≠none∧ ∃b',ν id= .pointer (some ⟨b',0,none⟩)∧(w.setRow b (dq cs.toList (bM p υ) (a.eval y).cells.toList).toArray).cell? ⟨b',bM p' τ',none⟩=some (ν j'))→o.wp P a w next Q:=by
     intro e' gB Fm hK Nf pH
     have rM:=Tr.write (e':=e') eZ.mem ma trivial gB Fm (by rw[hb];rfl) hg Nf pH
     refine nv cI (hn _ _ _ _ _ M' ν hK ?_ (by simp[VR]))
     rw[eb]
     exact eZ.trans rM
    cases BA:tb p q
    ·rw[BA]at hK
     simp only[cond_false]at hK
     obtain⟨yy,oo,ti⟩: ∃y o,DP p υ z τ y o:=zz h
     have hap:=ti.apart hi hq BA
     have hoo:=ti.eq.2
     subst hoo
     have aab:dq cs.toList (bM p υ) (a.eval y).cells.toList=dq (dq cs3 (bM p υ) (a.eval y).cells.toList) (bM q υ) [ν j]:=by
      rw[TI]
      exact PK (by simp only[List.length_singleton];omega) (by simp only[List.length_singleton];omega) (by omega)
     have S4:=ep (a:=cs3) (o:=bM p υ) (new:=(a.eval y).cells.toList) (by omega)
     refine fin (.dW υ z' q j) trivial rfl hK (fun Jz hk wA=> ?_) (fun τ' x' p' j' hl=> ?_)
     ·simp only[ER]
      exact⟨b,_,te,_,ν j,hb,setRow_heap w b cs _ te _ hg,wA,hzr.bx hk,aab,h1,e0,hq⟩
     ·cases hl
      refine⟨hj2,b,hb,?_⟩
      rw[cell_of (setRow_heap w b cs _ te _ hg),←Array.getElem?_toList]
      show(dq cs.toList (bM p υ) (a.eval y).cells.toList)[bM q υ]? =_
      rw[aab,yY (by omega)]
    ·rw[BA]at hK
     simp only[cond_true]at hK
     refine fin (.obj υ z') trivial rfl hK (fun Jz hk wA=> ?_) (fun τ' x' p' j' hl=>by cases hl)
     simp only[ER]
     refine⟨b,_,te,hb,setRow_heap w b cs _ te _ hg,wA,?_⟩
     show Rd _ _ υ (dq cs.toList (bM p υ) (a.eval y).cells.toList) z'
     have ir:=Cs BA hq
     rw[BP]at ir
     have ho:dq cs.toList (bM p υ) (a.eval y).cells.toList=dq cs3 (bM p υ) (a.eval y).cells.toList:=by
      rw[TI]
      exact FU (by simp only[List.length_singleton];omega) (by simp only[List.length_singleton];omega) (by omega)
     have h9:=hzr.bx hk
     rw[←ho]at h9
     exact h9
   split at h
   ·rename_i q' e k pH hy
    cases hp:(FD p q&&FD q q')
    ·rw[hp]at h;exact uX h
    ·rw[hp]at h
     simp only[cond_true]at h
     rw[Bool.and_eq_true]at hp
     have:=wx hp.1
     subst this
     have:=wx hp.2
     subst this
     refine zA hE hc ho ht hx hy aU trivial rfl (pM pH) ⟨b,cs,te,oG,ν j,hb,hg,hr,DT⟩ h hn
   ·exact uX h
  ·exact hold h
 ·exact hold h
theorem Nn(hE:EnvTy P E)(hc:Core c σ a.tmps w M ν){t:TypeId}{x y:Operand}(ho:o.op= .store t x y){K:fG α}{τ:Ty}(ht:E.ty t=some τ)
  (h:pf E τ (σ.ρ x) (σ.ρ y) σ.H K=some r) (hn:dU c σ a o w M ν K r next):o.wp P a w next Q:=by
 unfold pf at h
 split at h
 ·rename_i id υ z n hx hy
  split at h
  ·rename_i m e pH
   cases zy:Nat.beq m n
   ·rw[zy]at h
    simp only[cond_false]at h
    exact zC hE hc ho ht h hn
   ·rw[zy]at h
    simp only[cond_true]at h
    have zy:=Nat.eq_of_beq_eq_true zy
    subst zy
    obtain⟨e1,h1⟩:=dN h
    clear h
    subst e1
    have hq:=pM pH
    have yr:=hc.ev y
    rw[hy]at yr
    simp only[VR]at yr
    obtain⟨hV,cs,ad,hva,hz⟩:=yr
    have hcy:(a.eval y).cells=cs:=by rw[hva];rfl
    obtain⟨en,aU,hen,hK⟩: ∃en:aR,σ.H id=some en∧(∃z0,en= .obj τ z0∨ ∃q j,en= .dW τ z0 q j)∧σ.H (id+2)=none∧K .any [id,id+2] [(id,some (.dW τ z [.gX m] (id+2))),(id+2,some (.own e []))]=some r:=by
     unfold jL at h1
     split at h1
     ·rename_i υ z0 aU
      obtain⟨e2,h2⟩:=dN h1
      clear h1
      subst e2
      obtain⟨h3,h4⟩:=iE h2
      exact⟨_,aU,⟨z0,.inl rfl⟩,h3,h4⟩
     ·rename_i υ z0 q j aU
      obtain⟨e2,h2⟩:=dN h1
      clear h1
      subst e2
      obtain⟨h3,h4⟩:=iE h2
      exact⟨_,aU,⟨z0,.inr ⟨q,j,rfl⟩⟩,h3,h4⟩
     ·cases h1
     ·cases h1
     ·cases h1
    obtain⟨hk,hK⟩:=hK
    have amn:en.mut:=by rcases hen with⟨z0,rfl|⟨q,j,rfl⟩⟩<;>trivial
    have Ct:en.iD (.obj τ z):=by rcases hen with⟨z0,rfl|⟨q,j,rfl⟩⟩<;>rfl
    obtain⟨b,oG,te,hb,hg,p9⟩: ∃b oG te,ν id= .pointer (some ⟨b,0,none⟩)∧w.heap[b]? =some (.cells oG te (0,0))∧oG.toList.length=τ.size:=by
     rcases hen with⟨z0,rfl|⟨q,j,rfl⟩⟩
     ·have:=hc.mem.jj id _ aU
      simp only[ER]at this
      obtain⟨b,oG,te,h2,h3,_,h5⟩:=this
      exact⟨b,oG,te,h2,h3,h5.length⟩
     ·obtain⟨b,oG,te,uG,_,h2,h3,_,h5,h6,_,_,h7,_⟩:=hc.mem.linked aU
      refine⟨b,oG,te,h2,h3,?_⟩
      rw[h6,ep (by simp only[List.length_singleton];omega),h5.length]
    have hv:=hc.ev x
    rw[hx]at hv
    simp only[VR]at hv
    obtain⟨e3,he3,kf⟩:=hv
    rw[aU]at he3;cases he3
    have kf:=kf.iD Ct
    simp only[AR]at kf
    obtain⟨_,b',dF,hu⟩:=kf
    rw[hb]at dF;cases dF
    have Fp:=hV.cells.length
    have cI:=jM (P:=P) ho (hE.ty t _ ht) hu hg (by rw[←Array.length_toList];exact Fp) (by rw[←Array.length_toList,p9];simp[bM]) hV.cells.lf
    have PL:oG.toList.take (bM [] τ)++(a.eval y).cells.toList++oG.toList.drop (bM [] τ+(a.eval y).cells.toList.length)=(a.eval y).cells.toList:=by
     simp only[bM,List.take_zero,List.nil_append,Nat.zero_add]
     rw[List.drop_of_length_le (by omega),List.append_nil]
    rw[PL]at cI
    have th:=setRow_heap w b oG (a.eval y).cells.toList.toArray te _ hg
    have eZ:=Tr.write (e':= .obj τ z) (new:=(a.eval y).cells.toList.toArray) hc.mem aU amn trivial Ct (by rw[hb];rfl) hg (fun Jz zB wA=>by
     simp only[ER]
     exact⟨b,_,te,hb,th,wA,hV.cells.bx zB⟩)
    have gi:id+2≠id:=by omega
    have rM:=Tr.PH eZ.mem (id:=id) (k:=id+2) (by rw[an _ _ gi];exact hk) (ak _ _ _) hb th hq (ad:=ad) (by rw[hcy];simpa [bM]using hz)
    have e1:b8 (bs σ.H id (some (.obj τ z))) [(id,some (.dW τ z [.gX m] (id+2))),(id+2,some (.own e []))]=b8 σ.H [(id,some (.dW τ z [.gX m] (id+2))),(id+2,some (.own e []))]:=by
     show bs (bs (bs σ.H id _) id _) (id+2) _=bs (bs σ.H id _) (id+2) _
     rw[tP]
    rw[e1]at rM
    exact nv cI (hn _ _ _ _ _ _ _ hK (eZ.trans rM) (by simp[VR]))
  ·exact zC hE hc ho ht h hn
 ·exact zC hE hc ho ht h hn
end VM
end
section
namespace VM
open Go
variable{P:Program}{E:Env}{o:Oper}{a:Act}{w:World}{M:Nat→Prop}{ν:Nat→Value}{σ:St}{c:Ctx}{α:Type}{r:α}{next:Act→World→Prop}{Q:Exit→Act→World→Prop}
theorem nb{n:Nat}(h:Nat.beq n 0=false):n≠0:=by rw[←Bool.not_eq_true,Nat.beq_eq]at h;exact h
theorem At.sub{b off:Nat}{cs:List Value}(h:At w b off cs)(o n:Nat):At w b (off+o) ((cs.drop o).take n):=by
 intro j v hj
 rw[List.getElem?_take]at hj
 split at hj
 ·rw[List.getElem?_drop]at hj
  have:=h _ v hj
  rwa [←Nat.add_assoc]at this
 ·cases hj
def rN:aR→List Step→Option Ty
 | .obj τ _,p=>some (BK p τ)
 | .dW τ _ _ _,p=>some (BK p τ)
 | .own e _,.idx _::p| .la e _,.idx _::p=>some (BK p e)
 |_,_=>none
theorem zD{id:Nat}{p:List Step}{H:Nat→Option aR}{k:Ty→Option α}(h:jL id p H k=some r): ∃e υ,H id=some e∧rN e p=some υ∧k υ=some r:=by
 unfold jL at h
 split at h
 ·rename_i τ x aU
  obtain⟨υ,y,o,hp,hk⟩:=gG h
  exact⟨_,υ,aU,by simp[rN,hp.eq.1],hk⟩
 ·rename_i τ x _ _ aU
  obtain⟨υ,y,o,hp,hk⟩:=gG h
  exact⟨_,υ,aU,by simp[rN,hp.eq.1],hk⟩
 ·rename_i e l aU
  split at h
  ·obtain⟨υ,y,o,hp,hk⟩:=gG h
   exact⟨_,υ,aU,by simp[rN,hp.eq.1],hk⟩
  ·cases h
 ·rename_i e l aU
  split at h
  ·obtain⟨υ,y,o,hp,hk⟩:=gG h
   exact⟨_,υ,aU,by simp[rN,hp.eq.1],hk⟩
  ·cases h
 ·cases h
theorem AR.step{v:Value}{p:List Step}{u:Value}{e:aR}{υ:Ty}(h:AR v p u e)(ht:rN e p=some υ)(s:Step)(hs:tf [s] υ):
  ∃b off,u= .pointer (some ⟨b,off,none⟩)∧AR v (p++[s]) (.pointer (some ⟨b,off+bM [s] υ,none⟩)) e:=by
 cases e with
 |obj τ x=>
  simp only[rN,Option.some.injEq]at ht
  simp only[AR]at h ⊢
  obtain⟨hi,b,hb,rfl⟩:=h
  subst ht
  exact⟨b,_,rfl,(oF p [s] τ).2 ⟨hi,hs⟩,b,hb,by rw[oE]⟩
 |dW τ x _ _=>
  simp only[rN,Option.some.injEq]at ht
  simp only[AR]at h ⊢
  obtain⟨hi,b,hb,rfl⟩:=h
  subst ht
  exact⟨b,_,rfl,(oF p [s] τ).2 ⟨hi,hs⟩,b,hb,by rw[oE]⟩
 |own e l=>
  simp only[AR]at h ⊢
  obtain⟨i,q,rfl,BO,hi,b,n,cp,hb,rfl⟩:=h
  simp only[rN,Option.some.injEq]at ht
  subst ht
  exact⟨b,_,rfl,i,q++[s],rfl,BO,(oF q [s] e).2 ⟨hi,hs⟩,b,n,cp,hb,by rw[oE,Nat.add_assoc]⟩
 |la e l=>
  simp only[AR]at h ⊢
  obtain⟨i,q,rfl,BO,hi,b,n,cp,hb,rfl⟩:=h
  simp only[rN,Option.some.injEq]at ht
  subst ht
  exact⟨b,_,rfl,i,q++[s],rfl,BO,(oF q [s] e).2 ⟨hi,hs⟩,b,n,cp,hb,by rw[oE,Nat.add_assoc]⟩
 |gone=>simp[rN]at ht
theorem wB(hE:EnvTy P E)(hc:Core c σ a.tmps w M ν){t:TypeId}{x:Operand}{n:Nat}(ho:o.op= .fieldAddr t x n){K:fG α}{τ:Ty}(ht:E.ty t=some τ){id:Nat}{p:List Step}(hx:σ.ρ x= .fP id p)
  (h:jL id p σ.H (fun υ=>jK υ τ (tc τ τ.zero n fun υ' _=>cond (Nat.beq υ'.size 0) none (K (.fP id (p++[.gX n])) [id] [])))=some r) (hn:dU c σ a o w M ν K r next):o.wp P a w next Q:=by
 obtain⟨e,υ,aU,het,h⟩:=zD h
 obtain⟨he_,h_⟩:=dN h
 clear h
 subst he_
 have h:=h_
 clear h_
 obtain⟨υ',y,of,hf,h⟩:=pD h
 obtain⟨hz,h⟩:=jk h
 have hv:=hc.ev x
 rw[hx]at hv
 simp only[VR]at hv
 obtain⟨e',tC,kf⟩:=hv
 rw[aU]at tC;cases tC
 obtain⟨b,off,hu,abo⟩:=kf.step het (.gX n) trivial
 obtain⟨fs,f,JC,hff,hfo,PM⟩:=(hE.ty t υ ht).gX hf
 obtain⟨v,cI,hvv⟩:=pK (P:=P) ho (w:=w) JC hff PM (nb hz) hu
 refine aN cI (hn _ _ _ _ _ M ν h (.refl hc.mem) ?_)
 simp only[VR]
 refine⟨e,aU,?_⟩
 rw[hvv,hfo,hf.eq.2]
 simpa [bM]using abo
theorem uY(hE:EnvTy P E)(hc:Core c σ a.tmps w M ν){t:TypeId}{x:Operand}{n:Nat}(ho:o.op= .fieldAddr t x n){K:fG α}{τ:Ty}(ht:E.ty t=some τ){υ:Ty}{z:υ.den}(hx:σ.ρ x= .nk υ z)
  (h:jK υ τ (tc υ z n fun υ y=>cond (Nat.beq υ.size 0) none (K (.nk υ y) [] []))=some r) (hn:dU c σ a o w M ν K r next):o.wp P a w next Q:=by
 obtain⟨he,h1⟩:=dN h
 subst he
 obtain⟨υ',y,of,hf,h⟩:=pD h1
 obtain⟨hz,h⟩:=jk h
 have hv:=hc.ev x
 rw[hx]at hv
 simp only[VR]at hv
 obtain⟨b,off,hu,hb,hM,cs,ld,hr⟩:=hv
 obtain⟨fs,f,JC,hff,hfo,PM⟩:=(hE.ty t υ ht).gX hf
 obtain⟨v,cI,hvv⟩:=pK (P:=P) ho (w:=w) JC hff PM (nb hz) hu
 refine aN cI (hn _ _ _ _ _ M ν h (.refl hc.mem) ?_)
 simp only[VR]
 exact⟨b,off+f.offset,hvv,hb,hM,_,by rw[hfo];exact ld.sub of υ'.size,hf.rd hr⟩
theorem V.agg{τ:Ty}(ha:τ.isAgg=true){v:Value}{x:τ.den}(h:V w M τ v x): ∃cs,v= .agg cs∧Rd w M τ cs.toList x:=by
 unfold V at h;rw[if_pos ha]at h;exact h
theorem yl.agg{τ:Ty}{x:τ.den}{n:Nat}{υ:Ty}{y:υ.den}{o:Nat}(h:yl τ x n υ y o):τ.isAgg=true:=by cases h<;>rfl
theorem PN(hE:EnvTy P E)(hc:Core c σ a.tmps w M ν){t:TypeId}{x:Operand}{n:Nat}(ho:o.op= .field t x n){K:fG α}{τ:Ty}(ht:E.ty t=some τ){υ:Ty}{z:υ.den}(hx:σ.ρ x= .val υ z)
  (h:jK υ τ (tc υ z n fun υ y=>K (.val υ y) [] [])=some r) (hn:dU c σ a o w M ν K r next):o.wp P a w next Q:=by
 obtain⟨he,h1⟩:=dN h
 subst he
 obtain⟨υ',y,of,hf,h⟩:=pD h1
 have hv:=hc.ev x
 rw[hx]at hv
 simp only[VR]at hv
 obtain⟨cs,hu,hr⟩:=hv.agg hf.agg
 obtain⟨fs,f,JC,hff,hfo,PM⟩:=(hE.ty t υ ht).gX hf
 have dD:=hf.rd hr
 refine aN (DS ho JC hff PM hu (by rw[hfo];exact dD)) (hn _ _ _ _ _ M ν h (.refl hc.mem) ?_)
 simp only[VR]
 rw[hfo]
 exact V.bQ dD
theorem DV(hE:EnvTy P E)(hc:Core c σ a.tmps w M ν){t:TypeId}{x i:Operand}(ho:o.op= .indexAddr t x i){K:fG α}{τ:Ty}(ht:E.ty t=some τ)
  (h:eo τ (σ.ρ x) (σ.ρ i) σ.H K=some r) (hn:dU c σ a o w M ν K r next):o.wp P a w next Q:=by
 unfold eo at h
 obtain⟨k,n,hi,h2⟩:=jN h
 clear h
 have h:=h2
 clear h2
 have LZ:=hc.ev i
 rw[hi]at LZ
 have LZ:=LZ.int
 have hv:=hc.ev x
 have uW:=hE.ty t τ ht
 split at h
 ·
  rename_i e
  obtain⟨e',JC,hle⟩:=uW.slice
  split at h
  ·rename_i υ l hx
   obtain⟨e1,h⟩:=bc h
   subst e1
   obtain⟨ir,h⟩:=bK h
   obtain⟨h0,h1⟩:=qg ir
   have h1:n<(List.length l:Int):=h1
   rw[hx]at hv
   simp only[VR]at hv
   have hv:=V.slice.1 hv
   simp only[Rd,List.cons.injEq,and_true]at hv
   obtain⟨ad,cap,hu,agK,hr⟩:=hv
   obtain⟨b,off,rfl,hb,hM,cs,ld,iq⟩:=hr n.toNat (by omega)
   refine aN (iw ho JC hle hu LZ h0 h1) (hn _ _ _ _ _ M ν h (.refl hc.mem) ?_)
   simp only[VR]
   refine⟨b,_,rfl,hb,hM,cs,ld,?_⟩
   have:Rd w M e cs (List.getD l n.toNat e.zero):=by rw[g6 l n.toNat e.zero (by omega)];exact iq
   exact this
  ·rename_i id hx
   rw[hx]at hv
   simp only[VR]at hv
   obtain⟨_,hu⟩:=hv
   split at h
   ·rename_i e2 l aU
    obtain⟨he_,h_⟩:=dN h
    clear h
    subst he_
    have h:=h_
    clear h_
    obtain⟨ir,h⟩:=bK h
    obtain⟨h0,h1⟩:=qg ir
    have jy:=hc.mem.jj id _ aU
    simp only[ER]at jy
    rcases jy with⟨rfl,_⟩|⟨b,cs,te,cap,hb,hg,hM,Pp,hl,BL,hs,hr⟩
    ·simp at h1;omega
    ·rw[hb]at hu
     refine aN (iw ho JC hle hu LZ h0 h1) (hn _ _ _ _ _ M ν h (.refl hc.mem) ?_)
     simp only[VR]
     refine⟨_,aU,?_⟩
     simp only[AR]
     exact⟨n.toNat,[],rfl,by omega,trivial,b,_,_,hb,by simp[bM]⟩
   ·rename_i e2 l aU
    obtain⟨he_,h_⟩:=dN h
    clear h
    subst he_
    have h:=h_
    clear h_
    obtain⟨ir,h⟩:=bK h
    obtain⟨h0,h1⟩:=qg ir
    have jy:=hc.mem.jj id _ aU
    simp only[ER]at jy
    obtain⟨iq,hhd⟩:=jy
    simp only[Rd,List.cons.injEq,and_true]at iq
    obtain⟨ad,cap,hb,agK,hr⟩:=iq
    rcases hhd with⟨rfl,_⟩|⟨b,n2,c2,tg⟩
    ·simp at h1;omega
    ·rw[hb]at tg;cases tg
     rw[hb]at hu
     refine aN (iw ho JC hle hu LZ h0 h1) (hn _ _ _ _ _ M ν h (.refl hc.mem) ?_)
     simp only[VR]
     refine⟨_,aU,?_⟩
     simp only[AR]
     exact⟨n.toNat,[],rfl,by omega,trivial,b,_,_,hb,by simp[bM]⟩
   ·cases h
  ·cases h
 ·
  rename_i len e
  obtain⟨e',JC,hle⟩:=uW.arr
  split at h
  ·rename_i id p hx
   obtain⟨en,υ,aU,het,h⟩:=zD h
   obtain⟨he_,h_⟩:=dN h
   clear h
   subst he_
   have h:=h_
   clear h_
   obtain⟨ir,h⟩:=bK h
   obtain⟨h0,h1⟩:=qg ir
   rw[hx]at hv
   simp only[VR]at hv
   obtain⟨en',tC,kf⟩:=hv
   rw[aU]at tC;cases tC
   obtain⟨b,off,hu,abo⟩:=kf.step het (.idx n.toNat) ⟨⟨len,e,rfl,by omega⟩,trivial⟩
   refine aN (oJ ho JC hle hu LZ h0 h1) (hn _ _ _ _ _ M ν h (.refl hc.mem) ?_)
   simp only[VR]
   refine⟨en,aU,?_⟩
   simpa [bM,elT]using abo
  ·rename_i υ l hx
   obtain⟨e1,h⟩:=bc h
   subst e1
   obtain⟨ir,h⟩:=bK h
   obtain⟨h0,h1⟩:=qg ir
   rw[hx]at hv
   simp only[VR]at hv
   obtain⟨b,off,hu,hb,hM,cs,ld,hr⟩:=hv
   refine aN (oJ ho JC hle hu LZ h0 h1) (hn _ _ _ _ _ M ν h (.refl hc.mem) ?_)
   simp only[VR]
   exact⟨b,_,rfl,hb,hM,_,ld.sub _ e.size,hr.idx (by omega)⟩
  ·cases h
 ·cases h
theorem yt(hc:Core c σ a.tmps w M ν){x:Operand}(ho:o.op= .nilCheck x){K:fG α}{id:Nat}{p:List Step}(hx:σ.ρ x= .fP id p)
  (h:K (.fP id p) [] []=some r) (hn:dU c σ a o w M ν K r next):o.wp P a w next Q:=by
 have hv:=hc.ev x
 have PO:=hv
 rw[hx]at hv
 simp only[VR]at hv
 obtain⟨e,he,kf⟩:=hv
 obtain⟨ad,hu⟩:=kf.ptr
 refine aN (q7 ho hu) (hn _ _ _ _ _ M ν h (.refl hc.mem) ?_)
 rw[←hu,←hx];exact PO
theorem wC(hc:Core c σ a.tmps w M ν){x:Operand}(ho:o.op= .nilCheck x){K:fG α}{τ:Ty}{z:τ.den}(hx:σ.ρ x= .nk τ z)
  (h:K (.nk τ z) [] []=some r) (hn:dU c σ a o w M ν K r next):o.wp P a w next Q:=by
 have hv:=hc.ev x
 have PO:=hv
 rw[hx]at hv
 simp only[VR]at hv
 obtain⟨b,off,hu,_⟩:=hv
 refine aN (q7 ho hu) (hn _ _ _ _ _ M ν h (.refl hc.mem) ?_)
 rw[←hu,←hx];exact PO
theorem fQ.get{H:Nat→Option aR}: ∀{mG:List a6} {vs:List Value},fQ w M H ν mG vs→ ∀{i:Nat} {x:a6},mG[i]? =some x→ ∃v,vs[i]? =some v∧VR w M H ν x v
 |[],_,_,i,x,hx=>by simp at hx
 |y::mG,[],h,_,_,_=>by simp[fQ]at h
 |y::mG,v::vs,h,0,x,hx=>by
  simp only[fQ]at h
  simp at hx;subst hx
  exact⟨v,rfl,h.1⟩
 |y::mG,v::vs,h,i+1,x,hx=>by
  simp only[fQ]at h
  exact fQ.get h.2 (by simpa using hx)
theorem J1(hc:Core c σ a.tmps w M ν){x:Operand}{i:Nat}(ho:o.op= .extract x i){K:fG α}{vs:List a6}{v:a6}(hx:σ.ρ x= .tup vs)(hi:vs[i]? =some v)
  (h:K v [] []=some r) (hn:dU c σ a o w M ν K r next):o.wp P a w next Q:=by
 have hv:=hc.ev x
 rw[hx]at hv
 simp only[VR]at hv
 obtain⟨us,hu,TJ⟩:=hv
 obtain⟨u,hui,hvu⟩:=TJ.get hi
 exact aN (zv ho hu hui) (hn _ _ _ _ _ M ν h (.refl hc.mem) hvu)
theorem Core.evs(hc:Core c σ a.tmps w M ν): ∀xs:List Operand,fQ w M σ.H ν (xs.map σ.ρ) (xs.map a.eval)
 |[]=>by simp[fQ]
 |x::xs=>by simp only[List.map_cons,fQ];exact⟨hc.ev x,hc.evs xs⟩
theorem rO: ∀{mG:List a6} {vs:List Value} {H:Nat→Option aR} {M:Nat→Prop} {K:List a6→List Nat→fF→Option α},Mem c H w M ν→fQ w M H ν mG vs→rG H mG K=some r→
  ∃cs rd ups M',K cs rd ups=some r∧Tr c H w M ν (b8 H ups) w M' ν∧fQ w M' (b8 H ups) ν cs vs
 |[],vs,H,M,K,hm,hv,h=>⟨[],[],[],M,h,.refl hm,hv⟩
 |x::xs,[],H,M,K,hm,hv,h=>by simp[fQ]at hv
 |x::xs,v::vs,H,M,K,hm,hv,h=>by
  simp only[fQ]at hv
  unfold rG at h
  split at h
  ·rename_i id
   split at h
   ·rename_i τ z aU
    obtain⟨M1,b,ht,hb,dT,hM,oG,ld,iq⟩:=Tr.fix hm aU
    obtain⟨cs,rd,ups,M2,hK,S6,TK⟩:=rO ht.mem (fQ.bx ht.bx ht.goes hv.2) h
    refine⟨_,_,_,M2,hK,ht.trans S6,?_⟩
    have h1:VR w M1 (bs H id (some .gone)) ν (.nk τ z) v:=by
     have FW:=hv.1
     simp only[VR]at FW ⊢
     obtain⟨e,he,kf⟩:=FW
     rw[aU]at he;cases he
     simp only[AR]at kf
     obtain⟨_,b',dF,FW⟩:=kf
     rw[hb]at dF;cases dF
     exact⟨b,0,FW,dT,hM,oG,ld,iq⟩
    simp only[fQ]
    exact⟨VR.bx S6.bx S6.goes h1,TK⟩
   ·cases h
  ·obtain⟨cs,rd,ups,M2,hK,S6,TK⟩:=rO hm hv.2 h
   refine⟨_,_,_,M2,hK,S6,?_⟩
   simp only[fQ]
   exact⟨VR.bx S6.bx S6.goes hv.1,TK⟩
theorem FX(hc:Core c σ a.tmps w M ν){f:FuncId}{first caps:Array Operand}(ho:o.op= .makeFunc (.func f) first caps){K:fG α}
  (h:cond first.isEmpty (rG σ.H (caps.toList.map σ.ρ) fun cs rd ups=>K (.FE f cs) rd ups) none=some r) (hn:dU c σ a o w M ν K r next):o.wp P a w next Q:=by
 obtain⟨hf,h⟩:=bK h
 obtain⟨cs,rd,ups,M',hK,ht,hv⟩:=rO hc.mem (hc.evs _) h
 refine aN (yn ho (by simpa using hf)) (hn _ _ _ _ _ M' ν hK ht ?_)
 simp only[VR]
 exact⟨caps.toList.map a.eval,by congr 1;apply Array.ext';simp,hv⟩
theorem J2(hE:EnvTy P E)(hc:Core c σ a.tmps w M ν){s d:TypeId}{x:Operand}(ho:o.op= .convert s d x){K:fG α}{τ:Ty}{k:IntKind}(hs:E.ty s=some τ)(hd:E.ty d=some (.int k))
  (h:rD (σ.ρ x) (fun _ n=>K (.val (.int k) (W k n)) [] [])=some r) (hn:dU c σ a o w M ν K r next):o.wp P a w next Q:=by
 obtain⟨k',n,hx,h⟩:=jN h
 have hv:=hc.ev x
 rw[hx]at hv
 refine aN (zw ho (hE.ty s τ hs).isSome (hE.ty d _ hd).int hv.int) (hn _ _ _ _ _ M ν h (.refl hc.mem) ?_)
 rw[yi];exact .mkInt k _
end VM
end
section
namespace VM
open Go
variable{P:Program}{E:Env}{o:Oper}{a:Act}{w:World}{M:Nat→Prop}{ν:Nat→Value}{σ:St}{c:Ctx}{α:Type}{r:α}{next:Act→World→Prop}{Q:Exit→Act→World→Prop}
theorem No{b:BinOp}{k k':IntKind}{x y:Int}{t:TypeId}{K:a6→Option α}(h:Tx b k x y K=some r):
  ∃z,K (.val (.int k) z)=some r∧(binOp b t (.int k x) (.int k' y)).run P w= .ok (.int k z) w:=by
 unfold Tx at h
 split at h
 ·obtain⟨h0,h⟩:=jk h
  rw[pe]at h0
  have h0: ¬y<0:=by simpa using h0
  refine⟨_,h,?_⟩
  rw[yi,PC]
  simp[binOp,Op.shift,h0]
 ·obtain⟨h0,h⟩:=jk h
  rw[pe]at h0
  have h0: ¬y<0:=by simpa using h0
  refine⟨_,h,?_⟩
  rw[JW]
  simp[binOp,Op.shift,h0]
 ·cases h
theorem DW{b:BinOp}{k:IntKind}{x y:Int}{t:TypeId}{K:a6→Option α}(h:qb b k x y K=some r):
  ∃v u,K v=some r∧(binOp b t (.int k x) (.int k y)).run P w= .ok u w∧ ∀H,VR w M H ν v u:=by
 unfold qb at h
 split at h
 ·exact⟨_,_,h,by simp[binOp,Op.intArith,yi],fun H=> .mkInt _ _⟩
 ·exact⟨_,_,h,by simp[binOp,Op.intArith,yi],fun H=> .mkInt _ _⟩
 ·exact⟨_,_,h,by simp[binOp,Op.intArith,yi],fun H=> .mkInt _ _⟩
 ·obtain⟨h0,h⟩:=jk h
  rw[fY]at h0
  have h0: ¬y=0:=by simpa using h0
  exact⟨_,_,h,by simp[binOp,Op.intDiv,yi,DI,h0],fun H=> .mkInt _ _⟩
 ·obtain⟨h0,h⟩:=jk h
  rw[fY]at h0
  have h0: ¬y=0:=by simpa using h0
  exact⟨_,_,h,by simp[binOp,Op.intDiv,PB,h0],fun H=> .mkInt _ _⟩
 ·exact⟨_,_,h,by simp[binOp,Op.intBits,qa],fun H=> .mkInt _ _⟩
 ·exact⟨_,_,h,by simp[binOp,Op.intBits,qa],fun H=> .mkInt _ _⟩
 ·exact⟨_,_,h,by simp[binOp,Op.intBits,qa],fun H=> .mkInt _ _⟩
 ·exact⟨_,_,h,by simp[binOp,Op.intBits,qa],fun H=> .mkInt _ _⟩
 ·exact⟨_,.bool (decide (x=y)),h,by simp[binOp,Op.intCmp];rfl,fun H=>by rw[fY];exact .qf _⟩
 ·exact⟨_,.bool (!decide (x=y)),h,by simp[binOp,Op.intCmp];rfl,fun H=>by rw[fY];exact .qf _⟩
 ·exact⟨_,_,h,by simp[binOp,Op.intCmp,pe],fun H=> .qf _⟩
 ·exact⟨_,_,h,by simp[binOp,Op.intCmp,jI],fun H=> .qf _⟩
 ·exact⟨_,_,h,by simp[binOp,Op.intCmp,pe],fun H=> .qf _⟩
 ·exact⟨_,_,h,by simp[binOp,Op.intCmp,jI],fun H=> .qf _⟩
 ·cases h
theorem Np{t:Option Ty}{op:BinOp}{τ:Ty}{x:τ.den}{υ:Ty}{y:υ.den}{K:a6→Option α}(h:zr t op τ x υ y K=some r):
  (∃(k k':IntKind) (m n:Int),a6.val τ x= .val (.int k) m∧a6.val υ y= .val (.int k') n∧(cond (Tz op) (Tx op k m n K) (if k=k' then qb op k m n K else none))=some r)∨
  (∃z:τ.den,a6.val υ y= .val τ z∧t=some τ∧τ.comparable=true∧((op= .eql∧K (.val .bool (kZ τ x z))=some r)∨(op= .neq∧K (.val .bool (!kZ τ x z))=some r))):=by
 unfold zr at h
 split at h
 ·exact .inl ⟨_,_,_,_,rfl,rfl,h⟩
 ·right
  split at h
  ·cases h
  ·obtain⟨e,h1⟩:=dN h
   clear h
   subst e
   obtain⟨hc,h⟩:=bK h1
   clear h1
   split at h
   ·obtain⟨e,h1⟩:=bc h
    subst e
    exact⟨_,rfl,rfl,hc,.inl ⟨rfl,h1⟩⟩
   ·obtain⟨e,h1⟩:=bc h
    subst e
    exact⟨_,rfl,rfl,hc,.inr ⟨rfl,h1⟩⟩
   ·cases h
theorem xq{t:TypeId}(hu:P.underlying t=some .bool)(x y:Bool)(w:World):(Op.equal t (.bool x) (.bool y)).run P w= .ok (x==y) w:=by
 unfold Op.equal
 obtain⟨n,hn⟩: ∃n,Op.maxDepth=n+1:=⟨9999,rfl⟩
 rw[hn]
 simp[Op.equalIn,run_underlying hu]
theorem run_eql_bool{t:TypeId}(hu:P.underlying t=some .bool)(x y:Bool):(binOp .eql t (.bool x) (.bool y)).run P w= .ok (.bool (x==y)) w:=by
 simp[binOp,xq hu]
theorem run_neq_bool{t:TypeId}(hu:P.underlying t=some .bool)(x y:Bool):(binOp .neq t (.bool x) (.bool y)).run P w= .ok (.bool (!(x==y))) w:=by
 simp[binOp,xq hu]
theorem agM(x y:ByteArray):(x.toList==y.toList)=decide (x.toList=y.toList):=by
 rw[Bool.eq_iff_iff];simp
theorem FY{t:TypeId}(x y:ByteArray):(binOp .eql t (.string x) (.string y)).run P w= .ok (.bool (decide (x.toList=y.toList))) w:=by
 simp[binOp,Op.stringOp,agM]
theorem FZ{t:TypeId}(x y:ByteArray):(binOp .neq t (.string x) (.string y)).run P w= .ok (.bool (!decide (x.toList=y.toList))) w:=by
 simp[binOp,Op.stringOp,agM]
theorem PQ(hE:EnvTy P E)(hc:Core c σ a.tmps w M ν){b:BinOp}{t t':TypeId}{x y:Operand}(ho:o.op= .binOp b t x y t'){K:fG α}
  (h:FG (σ.ρ x) (fun τ x=>FG (σ.ρ y) fun υ y=>zr (E.ty t) b τ x υ y fun v=>K v [] [])=some r) (hn:dU c σ a o w M ν K r next):o.wp P a w next Q:=by
 have hx:=hc.ev x
 have hy:=hc.ev y
 unfold FG at h
 split at h
 ·rename_i τ x' hxe
  split at h
  ·rename_i υ y' hye
   rw[hxe]at hx;rw[hye]at hy
   rcases Np h with⟨k,k',m,n,e1,e2,h1⟩|⟨z,e2,ht,Nq,h1⟩
   ·rw[e1]at hx;rw[e2]at hy
    have hx:=hx.int
    have hy:=hy.int
    cases hs:Tz b
    ·rw[hs]at h1
     replace h1:(if k=k' then qb b k m n (fun v=>K v [] [])else none)=some r:=h1
     split at h1
     ·rename_i hk;subst hk
      obtain⟨v,u,hK,cI,hVR⟩:=DW (P:=P) (w:=w) (M:=M) (ν:=ν) (t:=t) h1
      exact aN (mH ho (by rw[hx,hy];exact mc w) (by rw[hx,hy];exact cI)) (hn _ [] [] _ _ _ _ hK (.refl hc.mem) (hVR _))
     ·cases h1
    ·rw[hs]at h1
     replace h1:Tx b k m n (fun v=>K v [] [])=some r:=h1
     obtain⟨z,hK,cI⟩:=No (P:=P) (w:=w) (k':=k') (t:=t) h1
     exact aN (mH ho (by rw[hx,hy];exact mc w) (by rw[hx,hy];exact cI)) (hn _ [] [] _ _ _ _ hK (.refl hc.mem) (.mkInt _ _))
   ·rw[e2]at hy
    have key:(eqGuard b t x y (a.eval x) (a.eval y)).run P w= .ok () w∧(binOp .eql t (a.eval x) (a.eval y)).run P w= .ok (.bool (kZ τ x' z)) w∧(binOp .neq t (a.eval x) (a.eval y)).run P w= .ok (.bool (!kZ τ x' z)) w:=by
     by_cases FP:τ.isAgg=true
     ·simp only[VR]at hx hy
      exact hE.eq t τ ht Nq FP w M _ _ _ _ b x y hx hy
     ·have hl:=hE.ty t τ ht
      cases τ with
      |int k=>
       rw[hx.int,hy.int]
       refine⟨mc w,?_,?_⟩
       ·simp[binOp,Op.intCmp,kZ,fY];rfl
       ·simp[binOp,Op.intCmp,kZ,fY];rfl
      |bool=>rw[hx.bool,hy.bool];exact⟨wz w,run_eql_bool hl.bool _ _,run_neq_bool hl.bool _ _⟩
      |str=>rw[hx.str,hy.str];exact⟨yp w,by rw[FY];simp[kZ,zq],by rw[FZ];simp[kZ,zq]⟩
      |slice e=>simp[Ty.comparable]at Nq
      |unit=>simp[Ty.isAgg]at FP
      |pair _ _=>simp[Ty.isAgg]at FP
      |arr _ _=>simp[Ty.isAgg]at FP
    obtain⟨hg,h2,h3⟩:=key
    rcases h1 with⟨rfl,hK⟩|⟨rfl,hK⟩
    ·exact aN (mH ho hg h2) (hn _ [] [] _ _ _ _ hK (.refl hc.mem) (.qf _))
    ·exact aN (mH ho hg h3) (hn _ [] [] _ _ _ _ hK (.refl hc.mem) (.qf _))
  ·cases h
 ·cases h
theorem TL(hc:Core c σ a.tmps w M ν){u:UnOp}{t:TypeId}{x:Operand}(ho:o.op= .unOp u t x){K:fG α}
  (h:Nb u (σ.ρ x) (fun v=>K v [] [])=some r) (hn:dU c σ a o w M ν K r next):o.wp P a w next Q:=by
 have hx:=hc.ev x
 unfold Nb at h
 split at h
 ·rename_i k n hxe
  rw[hxe]at hx
  refine aN (rL ho (v:= .int k (k.wrap (0-n))) ?_) (hn _ [] [] _ _ _ _ h (.refl hc.mem) (by rw[yi];exact .mkInt _ _))
  rw[hx.int];simp[Op.unary,Op.intArith]
 ·rename_i k n hxe
  rw[hxe]at hx
  refine aN (rL ho (v:= .int k (jx .xor k (if k.signed then-1 else k.max) n)) ?_) (hn _ [] [] _ _ _ _ h (.refl hc.mem) (.mkInt _ _))
  rw[hx.int,qa];simp[Op.unary,Op.intBits]
 ·rename_i b hxe
  rw[hxe]at hx
  refine aN (rL ho (v:= .bool (!b)) ?_) (hn _ [] [] _ _ _ _ h (.refl hc.mem) (.qf _))
  rw[hx.bool];simp[Op.unary]
 ·cases h
end VM
end
section
namespace VM
open Go
variable{P:Program}{E:Env}{o:Oper}{a:Act}{w:World}{M:Nat→Prop}{ν:Nat→Value}{σ:St}{c:Ctx}{α:Type}{r:α}{next:Act→World→Prop}{Q:Exit→Act→World→Prop}
theorem kD{args:Array Operand}{ts:Array TypeId}{t:TypeId}{x:Operand}{n:Nat}(ho:o.op= .call {callee:= .builtin .len,args,argTypes:=ts})(ha:args.toList=[x])(_ht:ts.toList.head?=some t)
  (hl: ∀ty,(Builtin.len_ ts ty #[a.eval x]).run P w= .ok (goInt n) w):(execOp a.eval o).run P w= .ok (.value (.int .i64 n)) w:=by
 obtain⟨cs,hr⟩:=ns (P:=P) (ρ:=a.eval) ho (w:=w)
 rw[hr]
 have:args.map a.eval= #[a.eval x]:=by apply Array.ext';simp[ha]
 rw[this]
 simp[builtin,hl,goInt]
theorem TM{ts:Array TypeId}{t ty:TypeId}(ht:ts[0]? =some t)(hu:P.underlying t=some .string)(s:ByteArray):(Builtin.len_ ts ty #[.string s]).run P w= .ok (goInt s.size) w:=by
 simp[Builtin.len_,ht,run_underlying hu]
theorem TN{ts:Array TypeId}{t ty e:TypeId}{n:Nat}(ht:ts[0]? =some t)(hu:P.underlying t=some (.array n e))(v:Value):(Builtin.len_ ts ty #[v]).run P w= .ok (goInt n) w:=by
 simp[Builtin.len_,ht,run_underlying hu]
theorem sK{ts:Array TypeId}{t ty e:TypeId}(ht:ts[0]? =some t)(hu:P.underlying t=some (.slice e))(ad:Option Addr)(n cp:Nat):(Builtin.len_ ts ty #[.slice ad n cp]).run P w= .ok (goInt n) w:=by
 simp[Builtin.len_,ht,run_underlying hu]
theorem ER.PS{e:Ty}{l:List e.den}{v:Value}(h:ER w M v (.own e l)): ∃ad cp,v= .slice ad l.length cp:=by
 simp only[ER]at h
 rcases h with⟨rfl,a,hv⟩|⟨b,cs,t,cap,hv,_⟩
 ·exact⟨a,0,hv⟩
 ·exact⟨_,cap,hv⟩
theorem ER.PT{e:Ty}{l:List e.den}{v:Value}(h:ER w M v (.la e l)): ∃ad cp,v= .slice ad l.length cp:=by
 simp only[ER]at h
 have h:=h.1
 simp only[Rd,List.cons.injEq,and_true]at h
 obtain⟨a,cap,hv,_⟩:=h
 exact⟨a,cap,hv⟩
theorem abq(hE:EnvTy P E)(hc:Core c σ a.tmps w M ν){args:Array Operand}{ts:Array TypeId}{x:Operand}(ho:o.op= .call {callee:= .builtin .len,args,argTypes:=ts})(ha:args.toList=[x]){K:fG α}{τ:Ty}
  (ht:(ts.toList.head?).bind E.ty=some τ) (h:FH τ (σ.ρ x) σ.H K=some r) (hn:dU c σ a o w M ν K r next):o.wp P a w next Q:=by
 obtain⟨t,ru,S6⟩:=Option.bind_eq_some_iff.1 ht
 have TO:ts[0]? =some t:=by rw[←ru,←Array.getElem?_toList,List.head?_eq_getElem?]
 have hl:=hE.ty t τ S6
 have hv:=hc.ev x
 unfold FH at h
 split at h
 ·rename_i e e' l hx
  obtain⟨_,hu,_⟩:=hl.slice
  rw[hx]at hv
  simp only[VR]at hv
  have hv:=V.slice.1 hv
  simp only[Rd,List.cons.injEq,and_true]at hv
  obtain⟨ad,cap,hv,_⟩:=hv
  refine aN (kD ho ha ru (n:=List.length l) fun ty=>by rw[hv];exact sK TO hu _ _ _) (hn _ [] [] _ _ _ _ h (.refl hc.mem) (.mkInt _ _))
 ·rename_i n e n' e' l hx
  obtain⟨_,hu,_⟩:=hl.arr
  refine aN (kD ho ha ru (n:=n) fun ty=>TN TO hu _) (hn _ [] [] _ _ _ _ h (.refl hc.mem) (.mkInt _ _))
 ·rename_i s hx
  rw[hx]at hv
  refine aN (kD ho ha ru (n:=ByteArray.size s) fun ty=>by rw[hv.str];exact TM TO hl.str _) (hn _ [] [] _ _ _ _ h (.refl hc.mem) (.mkInt _ _))
 ·rename_i e hx
  obtain⟨_,hu,_⟩:=hl.slice
  rw[hx]at hv
  simp only[VR]at hv
  obtain⟨ad,hv⟩:=hv
  refine aN (kD ho ha ru (n:=0) fun ty=>by rw[hv];exact sK TO hu _ _ _) (hn _ [] [] _ _ _ _ h (.refl hc.mem) (.mkInt _ _))
 ·rename_i e id hx
  obtain⟨_,hu,_⟩:=hl.slice
  rw[hx]at hv
  simp only[VR]at hv
  split at h
  ·rename_i e' l aU
   obtain⟨ad,cap,hh⟩:=(hc.mem.jj id _ aU).PS
   refine aN (kD ho ha ru (n:=l.length) fun ty=>by rw[hv.2,hh];exact sK TO hu _ _ _) (hn _ [id] [] _ _ _ _ h (.refl hc.mem) (.mkInt _ _))
  ·rename_i e' l aU
   obtain⟨ad,cap,hh⟩:=(hc.mem.jj id _ aU).PT
   refine aN (kD ho ha ru (n:=l.length) fun ty=>by rw[hv.2,hh];exact sK TO hu _ _ _) (hn _ [id] [] _ _ _ _ h (.refl hc.mem) (.mkInt _ _))
  ·cases h
 ·cases h
theorem F0{H:Nat→Option aR}(up:Bool): ∀(xs:List a6) (x:a6) (v:Value) (vs:List Value) (K:a6→Option α),VR w M H ν x v→fQ w M H ν xs vs→S3 up x xs K=some r→
  ∃x' v',K x'=some r∧(vs.foldlM (if up then Builtin.max2 else Builtin.min2) v).run P w= .ok v' w∧VR w M H ν x' v'
 |[],x,v,[],K,hx,_,h=>⟨x,v,h,by simp,hx⟩
 |[],_,_,_::_,_,_,hs,_=>by simp[fQ]at hs
 |_::_,_,_,[],_,_,hs,_=>by simp[fQ]at hs
 |y::xs,x,v,u::vs,K,hx,hs,h=>by
  simp only[fQ]at hs
  obtain⟨hy,hs⟩:=hs
  unfold S3 at h
  obtain⟨k,m,e1,h1⟩:=jN h
  obtain⟨k',n,e2,h2⟩:=jN h1
  clear h h1
  split at h2
  ·rename_i hk
   subst hk
   rw[e1]at hx;rw[e2]at hy
   have hx:=hx.int
   have hy:=hy.int
   obtain⟨x',v',hK,cI,hV⟩:=F0 up xs _ (.int k (cond up (mx m n) (mn m n))) vs K (.mkInt _ _) hs h2
   refine⟨x',v',hK,?_,hV⟩
   rw[List.foldlM_cons,Sem.run_bind]
   have:((if up then Builtin.max2 else Builtin.min2) v u).run P w= .ok (.int k (cond up (mx m n) (mn m n))) w:=by
    rw[hx,hy]
    cases up
    ·simp[Builtin.min2,Z7]
    ·simp[Builtin.max2,Z6]
   rw[this]
   exact cI
  ·cases h2
theorem aac(hc:Core c σ a.tmps w M ν)(up:Bool){args:Array Operand}{ts:Array TypeId}{x:Operand}{xs:List Operand}(ho:o.op= .call {callee:= .builtin (if up then .max else .min),args,argTypes:=ts})(ha:args.toList=x::xs){K:fG α}
  (h:S3 up (σ.ρ x) (xs.map σ.ρ) (fun v=>K v [] [])=some r) (hn:dU c σ a o w M ν K r next):o.wp P a w next Q:=by
 obtain⟨x',v',hK,cI,hV⟩:=F0 (P:=P) up (xs.map σ.ρ) (σ.ρ x) (a.eval x) (xs.map a.eval) _ (hc.ev x) (hc.evs xs) h
 refine aN ?_ (hn _ [] [] _ _ _ _ hK (.refl hc.mem) hV)
 obtain⟨cs,hr⟩:=ns (P:=P) (ρ:=a.eval) ho (w:=w)
 rw[hr]
 have hm:(args.map a.eval).toList=a.eval x::xs.map a.eval:=by simp[ha]
 cases up
 ·simp only[Bool.false_eq_true,if_false,builtin,Builtin.min_,hm,Sem.run_bind]at cI ⊢
  rw[cI];simp
 ·simp only[if_true,builtin,Builtin.max_,hm,Sem.run_bind]at cI ⊢
  rw[cI];simp
theorem BR{ρ:Operand→Value}{t:TypeId}{x i:Operand}(ho:o.op= .index t x i){k:IntKind}{n:Int}{s:ByteArray}
  (hu:P.underlying t=some .string) (hx:ρ x= .string s) (hi:ρ i= .int k n) (h0:0≤n) (h1:n<(s.size:Int)):
  (execOp ρ o).run P w= .ok (.value (.int .u8 ((s.data.getD n.toNat 0).toNat:Int))) w:=by
 have dT:n.toNat<s.size:=by omega
 have hs:s[n.toNat]? =some (s[n.toNat]'dT):=by simp[dT]
 have he:s[n.toNat]'dT=s.data.getD n.toNat 0:=by
  have tS:n.toNat<s.data.size:=dT
  rw[Array.getD,dif_pos tS];rfl
 simp[execOp,ho,hx,hi,Instr.index,asIntOf,run_underlying hu,h0,hs,he]
theorem PU(hE:EnvTy P E)(hc:Core c σ a.tmps w M ν){t:TypeId}{x i:Operand}(ho:o.op= .index t x i){K:fG α}{τ:Ty}(ht:E.ty t=some τ)
  (h:rH τ (σ.ρ x) (σ.ρ i) (fun v=>K v [] [])=some r) (hn:dU c σ a o w M ν K r next):o.wp P a w next Q:=by
 unfold rH at h
 obtain⟨k,n,hi,h2⟩:=jN h
 clear h
 have h:=h2
 clear h2
 have LZ:=hc.ev i
 rw[hi]at LZ
 have LZ:=LZ.int
 have hv:=hc.ev x
 have uW:=hE.ty t τ ht
 split at h
 ·rename_i len e υ l hx
  obtain⟨e',JC,hle⟩:=uW.arr
  obtain⟨e1,h⟩:=bc h
  subst e1
  obtain⟨ir,h⟩:=bK h
  obtain⟨h0,h1⟩:=qg ir
  rw[hx]at hv
  simp only[VR]at hv
  obtain⟨cs,hu,hr⟩:=hv.agg rfl
  have dD:=hr.idx (i:=n.toNat) (by omega)
  refine aN (BN ho JC hle hu LZ h0 h1 dD) (hn _ [] [] _ _ _ _ h (.refl hc.mem) ?_)
  simp only[VR]
  exact V.bQ dD
 ·rename_i s hx
  obtain⟨ir,h⟩:=bK h
  obtain⟨h0,h1⟩:=qg ir
  rw[hx]at hv
  refine aN (BR ho uW.str hv.str LZ h0 h1) (hn _ [] [] _ _ _ _ h (.refl hc.mem) (.mkInt _ _))
 ·cases h
theorem lh(τ:Ty):τ.ck.length=τ.size:=(Rd.zero default (fun _=>False) τ).length
theorem yu{z:Array Value}{n i s:Nat}(hz:z.size=s)(hi:i*s+s≤n):((madeCells z n).toList.drop (i*s)).take s=z.toList:=by
 apply List.ext_getElem?
 intro j
 rw[List.getElem?_take]
 split
 ·rename_i hj
  rw[List.getElem?_drop,Array.getElem?_toList,Array.getElem?_toList]
  simp only[madeCells,Array.getElem?_map]
  rw[Array.getElem?_range,if_pos (by omega)]
  simp only[Option.map_some]
  have:(i*s+j)%z.size=j:=by rw[hz,Nat.mul_comm,Nat.mul_add_mod,Nat.mod_eq_of_lt hj]
  rw[this,Array.getElem?_eq_getElem (by omega),getElem!_pos z j (by omega)]
 ·rename_i hj
  rw[Array.getElem?_toList,Array.getElem?_eq_none (by omega)]
theorem nu.made(w:World)(M:Nat→Prop)(e:Ty){n l:Nat}(h:l*e.size≤n):nu w M e (madeCells (bQ e e.ck).cells n).toList (List.replicate l e.zero):=by
 intro i hi
 rw[List.length_replicate]at hi
 have:=cY (s:=e.size) hi
 rw[yu (by rw[←Array.length_toList,eJ,lh]) (by omega),eJ,List.getElem_replicate]
 exact Rd.zero w M e
theorem wD{ρ:Operand→Value}{t:TypeId}{x y:Operand}(ho:o.op= .makeSlice t x y){v:Value}{w':World}(h:(Instr.makeSlice t (ρ x) (ρ y)).run P w= .ok v w'):(execOp ρ o).run P w= .ok (.value v) w':=by
 simp[execOp,ho,h]
theorem DX(hE:EnvTy P E)(hc:Core c σ a.tmps w M ν){t:TypeId}{x y:Operand}(ho:o.op= .makeSlice t x y){K:fG α}{e:Ty}(ht:E.ty t=some (.slice e)){id:Nat}
  (h:rD (σ.ρ x) (fun _ l=>rD (σ.ρ y) fun _ c=>cond (fX l c)
   (nn σ.H id (.own e []) (K (.ref id) [id] [(id,some (.own e (List.replicate l.toNat e.zero)))])) none)=some r) (hn:dU c σ a o w M ν K r next):o.wp P a w next Q:=by
 obtain⟨k,l,hx,h1⟩:=jN h
 obtain⟨k',n,hy,h2⟩:=jN h1
 clear h h1
 obtain⟨hk,h⟩:=bK h2
 obtain⟨aU,h⟩:=iE h
 rw[Cm]at hk
 obtain⟨h0,h1,h3⟩:=of_decide_eq_true hk
 simp only[uD]at h3
 obtain⟨e',hu,hle⟩:=(hE.ty t _ ht).slice
 obtain⟨i,hi,hs,hz,hb⟩:=hle.base
 have DY:=hc.ev x
 have yr:=hc.ev y
 rw[hx]at DY;rw[hy]at yr
 have abr:(i.bytes:Int)*n≤281474976710656:=by
  have h4:(i.bytes:Int)≤2048:=by omega
  have:(i.bytes:Int)*n≤2048*n:=Int.mul_le_mul_of_nonneg_right h4 (by omega)
  omega
 have cI:=run_make (P:=P) w t e' i _ hu hi hz k k' l n h0 h1 abr (by omega)
 have hlen:(List.replicate l.toNat e.zero).length=l.toNat:=List.length_replicate
 have eZ:=Tr.row hc.mem aU e' (e:=e) (cs:=madeCells (bQ e e.ck).cells (n.toNat*i.size)) (l:=List.replicate l.toNat e.zero) (cap:=n.toNat) (by rw[hlen];omega) (by simp[maxLen];omega)
  (by rw[size_madeCells,hs]) (nu.made w M e (Nat.mul_le_mul (by omega) (by omega)))
 refine aN (wD ho (by rw[DY.int,yr.int];exact cI)) (hn _ _ _ _ _ _ _ h eZ ?_)
 simp only[VR]
 exact⟨by show bs σ.H id _ id≠none;rw[ak];simp,by simp[cr]⟩
end VM
end
