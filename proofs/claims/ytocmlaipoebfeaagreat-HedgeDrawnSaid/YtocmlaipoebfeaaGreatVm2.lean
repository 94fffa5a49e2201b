/- A part of the proof of HedgeDrawn of layer 22: a machine that reads a function of the program as an equation between values. -/
import Derived.Test.YtocmlaipoebfeaaGreatVm1
set_option linter.all false
section
namespace VM
open Go
variable{P:Program}{E:Env}{o:Oper}{a:Act}{w:World}{M:Nat→Prop}{ν:Nat→Value}{σ:St}{c:Ctx}{α:Type}{r:α}{next:Act→World→Prop}{Q:Exit→Act→World→Prop}
theorem aM{v:Value}{w':World}(h:(execOp a.eval o).run P w= .ok (.value v) w')(hn:next (a.put o.dst v) w'):o.wp P a w next Q:=by
 unfold Oper.wp Oper.upon;rw[h];exact hn
theorem nE{w':World}(h:(execOp a.eval o).run P w= .ok .skip w')(hn:next (a.put o.dst undef) w'):o.wp P a w next Q:=by
 unfold Oper.wp Oper.upon;rw[h];exact hn
def eb(c:Ctx)(σ:St)(a:Act)(o:Oper)(w:World)(M:Nat→Prop)(ν:Nat→Value)(K:fL α)(r:α)(next:Act→World→Prop):Prop:=
 ∀v rd ups v' w' M' ν',K v rd ups=some r→Tr c σ.H w M ν (cc σ.H ups) w' M' ν'→VR w' M' (cc σ.H ups) ν' v v'→next (a.put o.dst v') w'
theorem Core.ev(h:Core c σ a.tmps w M ν)(x:Operand):VR w M σ.H ν (σ.ρ x) (a.eval x):=h.op a.defers x
theorem jV{x:a7}{k:IntKind→Int→Option α}(h:rC x k=some r): ∃(i:IntKind) (n:Int),x= .val (.int i) n∧k i n=some r:=by
 unfold rC at h
 split at h
 ·exact⟨_,_,rfl,h⟩
 ·cases h
theorem VR.int{H:Nat→Option aR}{k:IntKind}{n:Int}{v:Value}(h:VR w M H ν (.val (.int k) n) v):v= .int k n:=by
 simp only[VR,V,Ty.isAgg,Bool.false_eq_true,if_false,Rd,List.cons.injEq,and_true]at h;exact h
theorem VR.bool{H:Nat→Option aR}{b:Bool}{v:Value}(h:VR w M H ν (.val .bool b) v):v= .bool b:=by
 simp only[VR,V,Ty.isAgg,Bool.false_eq_true,if_false,Rd,List.cons.injEq,and_true]at h;exact h
theorem VR.str{H:Nat→Option aR}{b:ByteArray}{v:Value}(h:VR w M H ν (.val .str b) v):v= .string b:=by
 simp only[VR,V,Ty.isAgg,Bool.false_eq_true,if_false,Rd,List.cons.injEq,and_true]at h;exact h
theorem VR.mkInt{H:Nat→Option aR}(k:IntKind)(n:Int):VR w M H ν (.val (.int k) n) (.int k n):=by simp[VR,V,Ty.isAgg,Rd]
theorem VR.p7{H:Nat→Option aR}(b:Bool):VR w M H ν (.val .bool b) (.bool b):=by simp[VR,V,Ty.isAgg,Rd]
theorem VR.mkStr{H:Nat→Option aR}(b:ByteArray):VR w M H ν (.val .str b) (.string b):=by simp[VR,V,Ty.isAgg,Rd]
theorem Me(hc:Core c σ a.tmps w M ν){x:Operand}(ho:o.op= .move x∨o.op= .assign x){K:fL α}(h:K (σ.ρ x) [] []=some r)(hn:eb c σ a o w M ν K r next):o.wp P a w next Q:=by
 have hr:(execOp a.eval o).run P w= .ok (.value (a.eval x)) w:=by
  rcases ho with ho|ho
  ·simp[execOp,ho]
  ·simp[execOp,ho]
 exact aM hr (hn _ _ _ _ _ _ _ h (.refl hc.mem) (hc.ev x))
theorem Tx(hc:Core c σ a.tmps w M ν){x y z:Operand}(ho:o.op= .pick x y z){K:fL α}{t:Bool}(hx:σ.ρ x= .val .bool t)(h:cond t (K (σ.ρ y) [] []) (K (σ.ρ z) [] [])=some r)
  (hn:eb c σ a o w M ν K r next):o.wp P a w next Q:=by
 have hv:=hc.ev x
 rw[hx]at hv
 refine aM (Gm ho hv.bool) ?_
 cases t
 ·exact hn _ _ _ _ _ _ _ h (.refl hc.mem) (hc.ev z)
 ·exact hn _ _ _ _ _ _ _ h (.refl hc.mem) (hc.ev y)
theorem iB{H:Nat→Option aR}{id:Nat}{e:aR}{K:Option α}(h:nx H id e K=some r):H id=none∧K=some r:=by
 unfold nx at h
 split at h
 ·rename_i h';exact⟨h',h⟩
 ·cases h
theorem VR.ZT{H:Nat→Option aR}{id:Nat}{τ:Ty}{x:τ.den}{b:Nat}(aU:H id=some (.obj τ x))(hν:ν id= .pointer (some ⟨b,0,none⟩)):VR w M H ν (.fR id []) (.pointer (some ⟨b,0,none⟩)):=by
 simp only[VR]
 exact⟨_,aU,trivial,b,hν,rfl⟩
theorem VR.PG{H:Nat→Option aR}{id:Nat}{τ:Ty}{x:τ.den}{q:List Step}{j b:Nat}(aU:H id=some (.ed τ x q j))(hν:ν id= .pointer (some ⟨b,0,none⟩)):VR w M H ν (.fR id []) (.pointer (some ⟨b,0,none⟩)):=by
 simp only[VR]
 exact⟨_,aU,trivial,b,hν,rfl⟩
theorem eR(τ:Ty):(bT τ τ.cr).cells.toList=τ.cr:=B2 (Rd.zero default (fun _=>False) τ)
theorem Gn: ∀{τ:Ty} {n:Nat} {a:Ty},D9 τ n=some a→ ∃l m,τ.cr=l++(a.cr++m)∧l.length=om τ n:=by
 intro τ
 induction τ with
 |pair a b _ PF=>
  intro n c h
  cases n with
  |zero=>cases h;exact⟨[],b.cr,rfl,rfl⟩
  |succ n=>
   obtain⟨l,m,h1,h2⟩:=PF (n:=n) (a:=c) h
   refine⟨a.cr++l,m,by simp only[Ty.cr];rw[h1,List.append_assoc],?_⟩
   rw[List.length_append,h2,(Rd.zero default (fun _=>False) a).length];rfl
 |_=>intro n c h;simp[D9]at h
theorem u2: ∀{p:List Step} {τ υ:Ty},eL p τ υ=true→ ∃l m,τ.cr=l++(υ.cr++m)∧l.length=bO p τ
 |[],τ,υ,h=>by
  have h:=of_decide_eq_true h
  subst h
  exact⟨[],[],by simp,rfl⟩
 | .gP n::p,τ,υ,h=>by
  unfold eL at h
  split at h
  ·rename_i a ha
   obtain⟨l,m,h1,h2⟩:=Gn ha
   obtain⟨l',m',h3,h4⟩:=u2 h
   obtain⟨_,_,hf⟩:=py ha τ.zero
   have:=hf.eq.1
   subst this
   refine⟨l++l',m'++m,by rw[h1,h3];simp,?_⟩
   rw[List.length_append,h2,h4];rfl
  ·cases h
 | .idx _::_,_,_,h=>by simp[eL]at h
theorem CL{p:List Step}{τ e:Ty}(h:eL p τ (.slice e)=true):τ.cr[bO p τ]? =some (.slice none 0 0):=by
 obtain⟨l,m,h1,h2⟩:=u2 h
 rw[h1,List.getElem?_append_right (by omega),h2,Nat.sub_self];rfl
theorem bM{b:Bool}{K:Option α}(h:cond b K none=some r):b=true∧K=some r:=by
 cases b
 ·cases h
 ·exact⟨rfl,h⟩
theorem Mf{τ:Ty}{q:List Step}{e:Ty}(h:lkT E τ=some (q,e)):eL q τ (.slice e)=true:=by
 unfold lkT at h
 split at h
 ·rename_i υ q' e' _ _
  cases hd:decide (υ=τ)<;>rw[hd]at h
  ·cases h
  ·simp only[cond_true]at h
   cases hp:eL q' τ (.slice e')<;>rw[hp]at h
   ·cases h
   ·cases h;exact hp
 ·cases h
theorem pF{τ:Ty}{id:Nat}{q:List Step}{e:Ty}(h:Eb E τ id=some (q,e)):eL q τ (.slice e)=true:=by
 unfold Eb at h
 split at h
 ·exact Mf (bM h).2
 ·cases h
theorem zT{H:Nat→Option aR}{id:Nat}{τ:Ty}{x:τ.den}{q:List Step}{e:Ty}{K:fL α}(h:yA H id τ x q e K=some r):H id=none∧H (id+1)=none∧K (.fR id []) [id,id+1] [(id,some (.ed τ x q (id+1))),(id+1,some (.own e []))]=some r:=by
 unfold yA at h
 obtain⟨h1,h⟩:=iB h
 obtain⟨h2,h⟩:=iB h
 exact⟨h1,h2,h⟩
theorem Nw{H:Nat→Option aR}{i j:Nat}{u v:Option aR}(h:i≠j):bu (bu H i u) j v=bu (bu H j v) i u:=by
 funext k
 by_cases hi:k=i
 ·subst hi;rw[an _ _ h,ak,ak]
 ·by_cases hj:k=j
  ·subst hj;rw[ak,an _ _ hi,ak]
  ·rw[an _ _ hj,an _ _ hi,an _ _ hi,an _ _ hj]
theorem tR{H:Nat→Option aR}{i:Nat}{u v:Option aR}:bu (bu H i u) i v=bu H i v:=by
 funext k
 by_cases hi:k=i
 ·subst hi;rw[ak,ak]
 ·rw[an _ _ hi,an _ _ hi,an _ _ hi]
theorem Tr.PH{H:Nat→Option aR}(h:Mem c H w M ν){id k:Nat}(hk:H k=none){τ:Ty}{x:τ.den}(aU:H id=some (.obj τ x)){b:Nat}{cs:Array Value}{t:TypeId}(hb:ν id= .pointer (some ⟨b,0,none⟩))(hg:w.heap[b]? =some (.cells cs t (0,0)))
  {q:List Step} {e:Ty} (hq:eL q τ (.slice e)=true) {ad:Option Addr} (hz:cs.toList[bO q τ]? =some (.slice ad 0 0)):
  Tr c H w M ν (cc H [(id,some (.ed τ x q k)),(k,some (.own e []))]) w M (cB ν k (.slice ad 0 0)):=by
 have gk:k≠id:=fun e=>by rw[e,aU]at hk;cases hk
 have h2:=Tr.nothing h hk e ad
 have hd2:bu H k (some (.own e [])) id=some (.obj τ x):=by rw[an _ _ (Ne.symm gk)];exact aU
 have hν:cB ν k (.slice ad 0 0) id= .pointer (some ⟨b,0,none⟩):=by unfold cB;rw[if_neg (Ne.symm gk)];exact hb
 have hν1:cB ν k (.slice ad 0 0) k= .slice ad 0 0:=by simp[cB]
 have he:=h2.mem.jk id _ hd2
 simp only[ER]at he
 obtain⟨b',cs',t',dJ,hg',hM,ic⟩:=he
 rw[hν]at dJ;cases dJ
 rw[hg]at hg';cases hg'
 have h3:=Tr.agy h2.mem hd2 trivial (e':= .ed τ x q k) trivial rfl (fun _ _=>by simp) (by
   rw[hν];simp only[ER]
   exact⟨_,cs,t,cs.toList,.slice ad 0 0,rfl,hg,hM,ic,(Gi hz).symm,rfl,e,hq⟩)
  (fun τ' x' p' j' hl=>by
   cases hl
   refine⟨by rw[ak];simp,_,hν,?_⟩
   rw[hν1,cell_of hg,←Array.getElem?_toList];exact hz)
 rw[Nw (i:=k) (j:=id) gk]at h3
 exact h2.trans h3
theorem Tr.yA{H:Nat→Option aR}(h:Mem c H w M ν){id:Nat}(aU:H id=none)(mj:H (id+1)=none)(t:TypeId){τ:Ty}{cs:Array Value}{x:τ.den}(hr:Rd w M τ cs.toList x){q:List Step}{e:Ty}(hq:eL q τ (.slice e)=true){ad:Option Addr}
  (hz:cs.toList[bO q τ]? =some (.slice ad 0 0)):
  ∃M' ν',Tr c H w M ν (cc H [(id,some (.ed τ x q (id+1))),(id+1,some (.own e []))]) (w.alloc (.cells cs t)) M' ν'∧ν' id= .pointer (some ⟨w.heap.size,0,none⟩):=by
 have h1:=Tr.var h aU t hr
 have h2:=Tr.PH h1.mem (id:=id) (k:=id+1) (by rw[an _ _ (by omega)];exact mj) (ak _ _ _) (by simp[cB]) (zP w _) hq hz
 have e1:cc (bu H id (some (.obj τ x))) [(id,some (.ed τ x q (id+1))),(id+1,some (.own e []))]=cc H [(id,some (.ed τ x q (id+1))),(id+1,some (.own e []))]:=by
  show bu (bu (bu H id _) id _) (id+1) _=bu (bu H id _) (id+1) _
  rw[tR]
 rw[e1]at h2
 exact⟨_,_,h1.trans h2,by simp[cB]⟩
theorem PI(hE:EnvTy P E)(hc:Core c σ a.tmps w M ν){t:TypeId}(ho:o.op= .alloc t){K:fL α}{τ:Ty}(ht:E.ty t=some τ){id:Nat}
  (h:(match Eb E τ id with
   |some (q,e)=>yA σ.H id τ τ.zero q e K
   |none=>nx σ.H id (.obj τ τ.zero) (K (.fR id []) [id] [(id,some (.obj τ τ.zero))]))=some r) (hn:eb c σ a o w M ν K r next):o.wp P a w next Q:=by
 obtain⟨i,hi,hs,hz,_⟩:=(hE.ty t τ ht).base
 have hr:Rd w M τ (bT τ τ.cr).cells.toList τ.zero:=by rw[eR];exact Rd.zero w M τ
 split at h
 ·rename_i q e pB
  obtain⟨aU,mj,h⟩:=zT h
  obtain⟨M',ν',fb,hν⟩:=Tr.yA hc.mem aU mj t hr (pF pB) (by rw[eR];exact CL (pF pB))
  refine aM (uY ho hi hz w) (hn _ _ _ _ _ M' ν' h fb ?_)
  exact VR.PG (by show bu _ (id+1) _ id=_;rw[an _ _ (by omega),ak]) hν
 ·obtain⟨aU,h⟩:=iB h
  refine aM (uY ho hi hz w) (hn _ _ _ _ _ _ _ h (Tr.var hc.mem aU t hr) (VR.ZT (ak _ _ _) (by simp[cB])))
theorem Mg(hE:EnvTy P E)(hc:Core c σ a.tmps w M ν){t:TypeId}{x:Operand}(ho:o.op= .box t x){K:fL α}{τ:Ty}{id:Nat}
  (h:iT true (σ.ρ x) σ.H τ (fun y rd ups=>nx σ.H id (.obj τ y) (K (.fR id []) (id::rd) (ups++[(id,some (.obj τ y))])))=some r) (hn:eb c σ a o w M ν K r next):o.wp P a w next Q:=by
 obtain⟨y,rd,ups,M',h,fb,hV,hz,_⟩:=kR (.refl _) hc.mem (hc.ev x) h
 obtain⟨aU,h⟩:=iB h
 have aba:cc σ.H ups id=none:=hz.none aU
 have rL:=fb.trans (Tr.var fb.mem aba t hV.cells)
 refine aM (zQ ho w) (hn _ _ _ _ _ (fun b=>M' b∨b=w.heap.size) (cB ν id (.pointer (some ⟨w.heap.size,0,none⟩))) h ?_ ?_)
 ·rw[eg];exact rL
 ·rw[eg];exact VR.ZT (ak _ _ _) (by simp[cB])
theorem abb(hE:EnvTy P E)(hc:Core c σ a.tmps w M ν){t:TypeId}{x:Operand}(ho:o.op= .box t x){K:fL α}{τ:Ty}{id:Nat}
  (h:(match Eb E τ id,σ.ρ x with
   |some ([.gP m],e),.Ea υ y n=>cond (Nat.beq m n) (cn υ τ y fun y=>yA σ.H id τ y [.gP m] e K) (iT true (σ.ρ x) σ.H τ (fun y rd ups=>nx σ.H id (.obj τ y) (K (.fR id []) (id::rd) (ups++[(id,some (.obj τ y))]))))
   |_,_=>iT true (σ.ρ x) σ.H τ (fun y rd ups=>nx σ.H id (.obj τ y) (K (.fR id []) (id::rd) (ups++[(id,some (.obj τ y))]))))=some r) (hn:eb c σ a o w M ν K r next):o.wp P a w next Q:=by
 split at h
 ·rename_i m e υ y n pB hx
  cases hb:Nat.beq m n
  ·rw[hb]at h
   exact Mg hE hc ho h hn
  ·rw[hb]at h
   have zU:=Nat.eq_of_beq_eq_true hb
   subst zU
   simp only[cond_true]at h
   obtain⟨e1,h⟩:=ba h
   subst e1
   obtain⟨aU,mj,h⟩:=zT h
   have hv:=hc.ev x
   rw[hx]at hv
   simp only[VR]at hv
   obtain⟨hV,cs,ad,hva,hz⟩:=hv
   have Ej:(a.eval x).cells.toList=cs.toList:=by rw[hva];rfl
   obtain⟨M',ν',fb,hν⟩:=Tr.yA hc.mem aU mj t hV.cells (pF pB) (ad:=ad) (by rw[Ej];simpa [bO]using hz)
   refine aM (zQ ho w) (hn _ _ _ _ _ M' ν' h fb ?_)
   exact VR.PG (by show bu _ (id+1) _ id=_;rw[an _ _ (by omega),ak]) hν
 ·exact Mg hE hc ho h hn
theorem p8{i:Int}{n:Nat}(h:aH i n=true):0≤i∧i<(n:Int):=by rw[Ka]at h;simpa using h
theorem jl{b:Bool}{K:Option α}(h:cond b none K=some r):b=false∧K=some r:=by
 cases b
 ·exact⟨rfl,h⟩
 ·cases h
theorem xy(hm:Mem c σ.H w M ν){x:a7}{u:Value}(hv:VR w M σ.H ν x u){K:(υ:Ty)→υ.den→List Nat→Option α}(h:ib x σ.H K=some r):
  ∃υ y rd,K υ y rd=some r∧ ∃b off cs,u= .pointer (some ⟨b,off,none⟩)∧At w b off cs∧Rd w M υ cs y:=by
 unfold ib at h
 split at h
 ·simp only[VR]at hv
  obtain⟨b,off,rfl,_,_,cs,ha,hr⟩:=hv
  exact⟨_,_,_,h,b,off,cs,rfl,ha,hr⟩
 ·rename_i id p
  simp only[VR]at hv
  obtain⟨e,he,kC⟩:=hv
  have jD:=hm.jk id e he
  rw[he]at h
  cases e with
  |obj τ x=>
   obtain⟨υ,y,o',hp,hK⟩:=gB h
   simp only[AR]at kC
   obtain⟨hi,b,hb,rfl⟩:=kC
   simp only[ER]at jD
   obtain⟨b',cs,t,dJ,hg,_,hr⟩:=jD
   rw[hb]at dJ;cases dJ
   have:=hp.eq.2
   subst this
   exact⟨υ,y,_,hK,b,_,_,rfl,At.of_block hg _ _,hp.rd hi hr⟩
  |own e l=>
   simp only[AR]at kC
   obtain⟨i,q,rfl,B6,hi,b,n,cp,hb,rfl⟩:=kC
   obtain⟨υ,y,o',hp,hK⟩:=gB h
   simp only[ER]at jD
   rcases jD with⟨rfl,_⟩|⟨b',cs,t,cap,dJ,hg,_,Pp,hl,zO,hs,hr⟩
   ·simp at B6
   ·rw[hb]at dJ;cases dJ
    have:=hp.eq.2
    subst this
    have h1:=hr i B6
    rw[←gU l i e.zero B6]at h1
    have h2:=hp.rd hi h1
    have h3:=hp.bound hi
    rw[List.drop_take,List.drop_drop,List.take_take,Nat.min_eq_left (by omega)]at h2
    exact⟨υ,y,_,hK,b,_,_,rfl,At.of_block hg _ _,h2⟩
  |lj e l=>
   simp only[AR]at kC
   obtain⟨i,q,rfl,B6,hi,b,n,cp,hb,rfl⟩:=kC
   obtain⟨υ,y,o',hp,hK⟩:=gB h
   simp only[ER]at jD
   have ic:=jD.1
   simp only[Rd,List.cons.injEq,and_true]at ic
   obtain⟨a0,cap,ha0,_,hr⟩:=ic
   obtain⟨b',off,rfl,_,_,cs,ll,ZU⟩:=hr i B6
   rw[hb]at ha0;cases ha0
   have:=hp.eq.2
   subst this
   rw[Nat.zero_add]at ll
   have agB:Rd w M e cs (List.getD l i e.zero):=by rw[gU l i e.zero B6];exact ZU
   have h2:=hp.rd hi agB
   have h3:=hp.bound hi
   have Tw:=agB.length
   refine⟨υ,y,_,hK,b,_,_,rfl,?_,h2⟩
   intro j v hj
   rw[List.getElem?_take]at hj
   split at hj
   ·rw[List.getElem?_drop]at hj
    have:=ll _ v hj
    rwa [←Nat.add_assoc]at this
   ·cases hj
  |ed _ _ _ _=>cases h
  |gone=>cases h
 ·cases h
theorem Mem.linked{H:Nat→Option aR}(hm:Mem c H w M ν){id:Nat}{τ:Ty}{x:τ.den}{q:List Step}{j:Nat}(aU:H id=some (.ed τ x q j)):
  ∃b cs t oG e,ν id= .pointer (some ⟨b,0,none⟩)∧w.heap[b]? =some (.cells cs t (0,0))∧M b∧Rd w M τ oG x∧cs.toList=dv oG (bO q τ) [ν j]∧(ν j).oneCell'=true∧eL q τ (.slice e)=true∧bO q τ<oG.length∧H j≠none:=by
 have jD:=hm.jk id _ aU
 simp only[ER]at jD
 obtain⟨b,cs,t,oG,u,hb,hg,hM,hr,Ej,h1,e,hq⟩:=jD
 obtain⟨hj,b',dJ,Mh⟩:=hm.ed id _ _ _ _ aU
 rw[hb]at dJ;cases dJ
 obtain⟨y,o,hp⟩:=pz hq x
 have dD:bO q τ<oG.length:=by
  have:=hp.bound (gV hq).1
  have h2:=hp.eq.2
  have h3:=hr.length
  have:(Ty.slice e).size=1:=rfl
  omega
 have hu:u=ν j:=by
  rw[cell_of hg,←Array.getElem?_toList,Ej,zj dD]at Mh
  exact Option.some.inj Mh
 subst hu
 exact⟨b,cs,t,oG,e,hb,hg,hM,hr,Ej,h1,hq,dD,hj⟩
theorem tS{H:Nat→Option aR}(hm:Mem c H w M ν){id:Nat}{τ:Ty}{x:τ.den}{q:List Step}{j:Nat}(aU:H id=some (.ed τ x q j)){k:τ.den→fK→Option α}(h:yz j q τ x H k=some r):
  ∃z ups M',k z ups=some r∧Tr c H w M ν (cc H ups) w M' ν∧Fz H (cc H ups)∧((∃e l,H j=some (.lj e l)∧ups=[])∨ ∃e l,H j=some (.own e l)∧ups=[(j,some (.lj e l))])∧ ∃b cs t,ν id= .pointer (some ⟨b,0,none⟩)∧w.heap[b]? =some (.cells cs t (0,0))∧M' b∧Rd w M' τ cs.toList z:=by
 obtain⟨b,cs,t,oG,e0,hb,hg,hM,hr,Ej,h1,hq,dD,hj⟩:=hm.linked aU
 have Kg:=(gV hq).1
 unfold yz at h
 split at h
 ·rename_i e l BX
  obtain⟨z,hz,B7,BW,tc⟩:=lH h
  obtain⟨M',fb,hV,hM'⟩:=Tr.freeze hm BX
  refine⟨z,_,M',hz,fb,fun i=> ?_,.inr ⟨e,l,BX,rfl⟩,b,cs,t,hb,hg,?_,?_⟩
  ·by_cases hi:i=j
   ·subst hi;exact .inr ⟨e,l,BX,ak _ _ _⟩
   ·exact .inl (an _ _ hi)
  ·refine(hM' b).2 ⟨hM,fun hjb=> ?_⟩
   have gk:j≠id:=fun e=>by rw[e,aU]at BX;cases BX
   exact hm.wu j id _ _ b gk BX trivial aU trivial hjb (by rw[hb];rfl)
  ·rw[Ej]
   exact tc w M' oG [ν j] Kg (hr.bP fb.bP) (V.slice.1 hV)
 ·rename_i e l BX
  obtain⟨z,hz,B7,BW,tc⟩:=lH h
  have jD:=hm.jk j _ BX
  simp only[ER]at jD
  refine⟨z,_,M,hz,.refl hm,.refl H,.inl ⟨e,l,BX,rfl⟩,b,cs,t,hb,hg,hM,?_⟩
  rw[Ej]
  exact tc w M oG [ν j] Kg hr jD.1
 ·cases h
theorem afJ{τ υ:Ty}{t:TypeId}(hE:EnvTy P E)(ht:E.ty t=some τ)(h:eL ([]:List Step) υ τ=true):υ=τ:=of_decide_eq_true h
theorem Rd.abd{e:Ty}{v:Value}{cs:List Value}{l:List e.den}(h:Rd w M (.slice e) cs l): ∃a n cap,cs=[.slice a n cap]:=by
 simp only[Rd]at h
 obtain⟨a,cap,rfl,_⟩:=h
 exact⟨a,_,cap,rfl⟩
theorem B8{ρ:Operand→Value}{t:TypeId}{x:Operand}(ho:o.op= .load t x){τ:Ty}(h:gT P τ t)(ha:τ.isAgg=false){b off:Nat}{v:Value}(hx:ρ x= .pointer (some ⟨b,off,none⟩))(hc:w.cell? ⟨b,off,none⟩=some v):
  (execOp ρ o).run P w= .ok (.value v) w:=by
 have:(loadVar t ⟨b,off,none⟩).run P w= .ok v w:=by
  simp[loadVar,pD h,ha,load,Sem.run,hc]
 simp[execOp,ho,hx,Instr.loadAt,Instr.sureAddr,this]
theorem Gp(hE:EnvTy P E)(hc:Core c σ a.tmps w M ν){t:TypeId}{x:Operand}(ho:o.op= .load t x){K:fL α}{τ:Ty}(ht:E.ty t=some τ)
  (h:ib (σ.ρ x) σ.H (fun υ y rd=>cn υ τ y fun z=>K (.val τ z) rd [])=some r) (hn:eb c σ a o w M ν K r next):o.wp P a w next Q:=by
 obtain⟨υ,y,rd,h,b,off,cs,hu,ll,hr⟩:=xy hc.mem (hc.ev x) h
 obtain⟨e,h⟩:=ba h
 subst e
 refine aM (rJ ho (hE.ty t _ ht) hu ll hr) (hn _ _ _ _ _ _ _ h (.refl hc.mem) ?_)
 simp only[VR]
 exact V.bT hr
theorem Tz(hE:EnvTy P E)(hc:Core c σ a.tmps w M ν){t:TypeId}{x:Operand}(ho:o.op= .load t x){K:fL α}{τ:Ty}(ht:E.ty t=some τ)
  (h:q3 τ (σ.ρ x) σ.H K=some r) (hn:eb c σ a o w M ν K r next):o.wp P a w next Q:=by
 unfold q3 at h
 simp only at h
 split at h
 ·rename_i id p hx
  split at h
  ·rename_i υ z q j aU
   have hv:=hc.ev x
   rw[hx]at hv
   simp only[VR]at hv
   obtain⟨e1,Kh,kC⟩:=hv
   rw[aU]at Kh;cases Kh
   simp only[AR]at kC
   obtain⟨hi,b,hb,hu⟩:=kC
   obtain⟨b',cs,te,oG,e0,dJ,hg,hM,hr,Ej,h1,hq,dD,hj⟩:=hc.mem.linked aU
   rw[hb]at dJ;cases dJ
   cases hp:F7 p q
   ·rw[hp]at h
    cases BT:s7 p q
    ·
     rw[BT]at h
     simp only[cond_false]at h
     obtain⟨υ',y,o',td,h⟩:=gB h
     obtain⟨e2,h⟩:=ba h
     subst e2
     have hap:=td.apart hi hq BT
     have Tu:=td.eq.2
     subst Tu
     have BW:=td.bound hi
     have hlen:=hr.length
     have ic:Rd w M υ' ((cs.toList.drop (bO p υ)).take υ'.size) y:=by
      rw[Ej,Eg (by simp only[List.length_singleton];omega) (by simp only[List.length_singleton];omega)]
      exact td.rd hi hr
     refine aM (rJ ho (hE.ty t _ ht) hu (At.of_block hg _ _) ic) (hn _ _ _ _ _ M ν h (.refl hc.mem) ?_)
     simp only[VR]
     exact V.bT ic
    ·
     rw[BT]at h
     simp only[cond_false,cond_true]at h
     obtain⟨z',ups,M',h,fb,_,_,b2,cs2,t2,tb,Ki,Ek,S1⟩:=tS hc.mem aU h
     rw[hb]at tb;cases tb
     rw[hg]at Ki;cases Ki
     obtain⟨υ',y,o',td,h⟩:=gB h
     obtain⟨e2,h⟩:=ba h
     subst e2
     have Tu:=td.eq.2
     subst Tu
     have ic:=td.rd hi S1
     refine aM (rJ ho (hE.ty t _ ht) hu (At.of_block hg _ _) ic) (hn _ _ _ _ _ M' ν h fb ?_)
     simp only[VR]
     exact V.bT ic
   ·
    rw[hp]at h
    have:=wD hp
    subst this
    simp only[cond_true]at h
    obtain⟨hpq,hK⟩:=bM h
    have hτ:τ= .slice e0:=(gV hpq).2.symm.trans (gV hq).2
    subst hτ
    have Mh:w.cell? ⟨b,bO p υ,none⟩=some (ν j):=by rw[cell_of hg,←Array.getElem?_toList,Ej,zj dD]
    refine aM (B8 ho (hE.ty t _ ht) rfl hu Mh) (hn _ _ _ _ _ M ν hK (.refl hc.mem) ?_)
    simp only[VR]
    exact⟨hj,trivial⟩
  ·exact Gp hE hc ho ht h hn
 ·exact Gp hE hc ho ht h hn
end VM
end
section
namespace VM
open Go
variable{P:Program}{E:Env}{o:Oper}{a:Act}{w:World}{M:Nat→Prop}{ν:Nat→Value}{σ:St}{c:Ctx}{α:Type}{r:α}{next:Act→World→Prop}{Q:Exit→Act→World→Prop}
theorem Fz.own{H H1:Nat→Option aR}(h:Fz H H1){i:Nat}{e:Ty}{l:List e.den}(hi:H i=some (.own e l)):H1 i=some (.own e l)∨H1 i=some (.lj e l):=by
 rcases h i with h'|⟨e',l',h1,h2⟩
 ·exact .inl (by rw[h',hi])
 ·rw[hi]at h1;cases h1;exact .inr h2
theorem Nx(hE:EnvTy P E)(hc:Core c σ a.tmps w M ν){t:TypeId}{x y:Operand}(ho:o.op= .store t x y){K:fL α}{τ:Ty}(ht:E.ty t=some τ)
  (h:iV τ (σ.ρ x) (σ.ρ y) σ.H K=some r) (hn:eb c σ a o w M ν K r next):o.wp P a w next Q:=by
 unfold iV at h
 split at h
 ·rename_i id p hx
  obtain⟨z,rd,ups,M',h,fb,hV,hz,ic⟩:=kR (.refl _) hc.mem (hc.ev y) h
  have hv:=hc.ev x
  rw[hx]at hv
  have hvz:=VR.bP fb.bP fb.goes hv
  have u5:=hE.ty t τ ht
  have El:=hV.cells.length
  rw[Array.length_toList]at El
  split at h
  ·rename_i υ x0 aU
   have mj:=hz.obj aU
   obtain⟨x1,hK,B7,BW,tc⟩:=lH h
   simp only[VR]at hvz
   obtain⟨e1,Kh,kC⟩:=hvz
   rw[mj]at Kh;cases Kh
   simp only[AR]at kC
   obtain⟨hi,b,hb,hu⟩:=kC
   have jD:=fb.mem.jk id _ mj
   simp only[ER]at jD
   obtain⟨b',cs,te,dJ,hg,hM,hr⟩:=jD
   rw[hb]at dJ;cases dJ
   have BW:=BW hi
   have Tw:=hr.length
   rw[Array.length_toList]at Tw
   have cO:=jU (P:=P) ho u5 hu hg El (by omega) hV.cells.ln
   rw[Array.length_toList]at cO
   have rL:Tr c (cc σ.H ups) w M' ν (bu (cc σ.H ups) id (some (.obj υ x1))) (w.setRow b (dv cs.toList (bO p υ) (a.eval y).cells.toList).toArray) M' ν:=by
    refine Tr.write (e':= .obj υ x1) fb.mem mj trivial trivial rfl (by rw[hb];rfl) hg fun JP hk wG=> ?_
    simp only[ER]
    refine⟨b,_,te,hb,setRow_heap w b cs _ te _ hg,wG,?_⟩
    exact(tc w M' cs.toList _ hi hr hV.cells).bP hk
   refine nE cO ?_
   refine hn _ _ _ _ _ M' ν hK ?_ (by simp[VR])
   rw[eg]
   have:=fb.trans rL
   unfold dv at this
   rw[Array.length_toList]at this
   exact this
  ·rename_i e l aU
   split at h
   ·rename_i i q h0
    obtain⟨yG,h⟩:=jl h
    have mj:cc σ.H ups id=some (.own e l):=by rw[ic id yG];exact aU
    obtain⟨y1,hK,B7,BW,tc⟩:=lH h
    simp only[VR]at hvz
    obtain⟨e1,Kh,kC⟩:=hvz
    rw[mj]at Kh;cases Kh
    simp only[AR]at kC
    obtain⟨i',q',hpq,B6,hi,b,n,cp,hb,hu⟩:=kC
    cases hpq
    have jD:=fb.mem.jk id _ mj
    simp only[ER]at jD
    rcases jD with⟨rfl,_⟩|⟨b',cs,te,cap,dJ,hg,hM,Pp,hl,zO,hs,hr⟩
    ·simp at B6
    ·rw[hb]at dJ;cases dJ
     have BW:=BW hi
     have pA:=c4 (s:=e.size) B6
     have uX:l.length*e.size≤cp*e.size:=Nat.mul_le_mul_right _ hl
     have cO:=jU (P:=P) ho u5 hu hg El (by omega) hV.cells.ln
     rw[Array.length_toList]at cO
     have hri:=hr i B6
     rw[←gU l i e.zero B6]at hri
     have oq:=tc w M' _ _ hi hri hV.cells
     have hch:((cs.toList.drop (i*e.size)).take e.size).length=e.size:=hri.length
     have TA:dv cs.toList (i*e.size) (dv ((cs.toList.drop (i*e.size)).take e.size) (bO q e) (a.eval y).cells.toList)=dv cs.toList (i*e.size+bO q e) (a.eval y).cells.toList:=by
      have SZ:=oq.length
      have e1:cs.toList=cs.toList.take (i*e.size)++(((cs.toList.drop (i*e.size)).take e.size)++cs.toList.drop (i*e.size+e.size)):=by
       rw[←List.drop_drop,List.take_append_drop,List.take_append_drop]
      have dD:(cs.toList.take (i*e.size)).length=i*e.size:=by rw[List.length_take,Array.length_toList];omega
      conv=>rhs;rw[e1]
      rw[show i*e.size+bO q e=(cs.toList.take (i*e.size)).length+bO q e from by rw[dD],sI,uV (by rw[hch,Array.length_toList];omega)]
      generalize dv ((cs.toList.drop (i*e.size)).take e.size) (bO q e) (a.eval y).cells.toList=m at SZ ⊢
      unfold dv
      rw[SZ,List.append_assoc]
     have rL:Tr c (cc σ.H ups) w M' ν (bu (cc σ.H ups) id (some (.own e (List.set l i y1)))) (w.setRow b (dv cs.toList (i*e.size+bO q e) (a.eval y).cells.toList).toArray) M' ν:=by
      refine Tr.write (e':= .own e (List.set l i y1)) fb.mem mj trivial trivial ⟨rfl,by rw[List.length_set]⟩ (by rw[hb];simp[eD];omega) hg fun JP hk wG=> ?_
      simp only[ER]
      refine .inr ⟨b,_,te,cp,by rw[List.length_set];exact hb,setRow_heap w b cs _ te _ hg,wG,Pp,by rw[List.length_set];exact hl,zO,?_,?_⟩
      ·rw[←TA,List.size_toArray,ew (by rw[oq.length,Array.length_toList];omega),Array.length_toList];exact hs
      ·have h9:cs.toList.length=cp*e.size:=by rw[Array.length_toList,hs]
       have h10:=nD.set (w:=w) (M:=M') (cs:=cs.toList) (l:=l) hr (by rw[h9];exact uX) B6 oq
       rw[TA]at h10
       exact fun j hj=>(h10 j hj).bP hk
     refine nE cO ?_
     refine hn _ _ _ _ _ M' ν hK ?_ (by simp[VR])
     rw[eg]
     have:=fb.trans rL
     unfold dv at this
     rw[Array.length_toList]at this
     exact this
   ·cases h
  ·cases h
 ·cases h
theorem Fz.ed{H H1:Nat→Option aR}(h:Fz H H1){i:Nat}{τ:Ty}{x:τ.den}{p:List Step}{j:Nat}(hi:H i=some (.ed τ x p j)):H1 i=some (.ed τ x p j):=by
 rcases h i with h'|⟨e',l',h1,h2⟩
 ·rw[h',hi]
 ·rw[hi]at h1;cases h1
theorem tT{β:Type}{l a:List β}{o:Nat}(hl:o+a.length≤l.length)(i:Nat):(dv l o a)[i]? =if o≤i∧i<o+a.length then a[i-o]? else l[i]? :=by
 unfold dv
 by_cases h1:i<o
 ·rw[if_neg (by omega),List.append_assoc,List.getElem?_append_left (by simp;omega),List.getElem?_take,if_pos h1]
 ·by_cases h2:i<o+a.length
  ·rw[if_pos (by omega),List.getElem?_append_left (by simp;omega),List.getElem?_append_right (by simp;omega)]
   simp[Nat.min_eq_left (show o≤l.length by omega)]
  ·rw[if_neg (by omega),List.getElem?_append_right (by simp;omega)]
   simp only[List.length_append,List.length_take,Nat.min_eq_left (show o≤l.length by omega),List.getElem?_drop]
   congr 1;omega
theorem Gq{β:Type}{l a b:List β}{o o':Nat}(h:o'≤o∧o+a.length≤o'+b.length)(h1:o+a.length≤l.length)(h2:o'+b.length≤l.length):dv (dv l o a) o' b=dv l o' b:=by
 have l1:=ew (a:=l) (o:=o) (new:=a) h1
 apply List.ext_getElem?
 intro i
 rw[tT (by omega),tT (by omega),tT (by omega)]
 by_cases c1:o'≤i∧i<o'+b.length
 ·rw[if_pos c1,if_pos c1]
 ·rw[if_neg c1,if_neg c1,if_neg (by omega)]
theorem CN{β:Type}{l:List β}{o:Nat}{u v:β}(h:o<l.length):dv (dv l o [u]) o [v]=dv l o [v]:=
 Gq (by simp) (by simp;omega) (by simp;omega)
theorem PJ{β:Type}{l a b:List β}{o o':Nat}(h:o+a.length≤o'∨o'+b.length≤o)(h1:o+a.length≤l.length)(h2:o'+b.length≤l.length):dv (dv l o a) o' b=dv (dv l o' b) o a:=by
 have l1:=ew (a:=l) (o:=o) (new:=a) h1
 have l2:=ew (a:=l) (o:=o') (new:=b) h2
 apply List.ext_getElem?
 intro i
 rw[tT (by omega),tT (by omega),tT (by omega),tT (by omega)]
 by_cases c1:o'≤i∧i<o'+b.length
 ·rw[if_pos c1,if_neg (by omega),if_pos c1]
 ·rw[if_neg c1]
  by_cases c2:o≤i∧i<o+a.length
  ·rw[if_pos c2,if_pos c2]
  ·rw[if_neg c2,if_neg c2,if_neg c1]
theorem Gr{m:(υ:Ty)→υ.den→(υ.den→Option α)→Option α}: ∀{τ:Ty} {x:τ.den} {n:Nat} {k:τ.den→Option α},jR τ x n m k=some r→ ∃υ y o k',yB τ x n υ y o∧m υ y k'=some r:=fun h=>by
 obtain⟨υ,y,o,k',h1,h2,_⟩:=oL h
 exact⟨υ,y,o,k',h1,h2⟩
theorem zV{υ:Ty}{u:υ.den}: ∀{p:List Step} {τ:Ty} {x:τ.den} {k:τ.den→Option α},rj υ u p τ x k=some r→ ∃y o,Ef p τ x υ y o
 |[],τ,x,k,h=>by
  obtain⟨e,_⟩:=ba (h:cn υ τ u k=some r)
  subst e
  exact⟨x,0,.nil x⟩
 | .gP n::p,τ,x,k,h=>by
  obtain⟨υ',y,o,k',hf,hm⟩:=Gr (h:jR τ x n _ k=some r)
  obtain⟨y',o',hp⟩:=zV (k:=k') hm
  exact⟨y',_,.gP hf hp⟩
 | .idx i::p,τ,x,k,h=>by
  cases τ with
  |arr n e=>
   obtain⟨y',o',hp⟩:=zV (p:=p) (τ:=e) (x:=List.getD x i e.zero) (k:=fun z=>k (List.set x i z)) h
   exact⟨y',_,.idx hp⟩
  |_=>simp[rj,zf]at h
theorem CO: ∀{p q:List Step} {τ e:Ty},s7 p q=true→eL q τ (.slice e)=true→bO p τ≤bO q τ∧bO q τ+1≤bO p τ+(B3 p τ).size
 |[],q,τ,e,_,hq=>by
  obtain⟨_,_,td⟩:=pz hq τ.zero
  have:=td.bound (gV hq).1
  have h2:=td.eq.2
  have:(Ty.slice e).size=1:=rfl
  simp only[bO,B3]
  omega
 | .gP a::p,.gP b::q,τ,e,hp,hq=>by
  simp only[s7,Bool.and_eq_true]at hp
  have:=Nat.eq_of_beq_eq_true hp.1
  subst this
  unfold eL at hq
  split at hq
  ·rename_i c hc
   obtain⟨_,_,hf⟩:=py hc τ.zero
   have:=hf.eq.1
   subst this
   have:=CO hp.2 hq
   simp only[bO,B3]
   omega
  ·cases hq
 | .gP _::_,[],_,_,hp,_| .gP _::_,.idx _::_,_,_,hp,_| .idx _::_,_,_,_,hp,_=>by simp[s7]at hp
theorem ER.Ny{H:Nat→Option aR}(hm:Mem c H w M ν){k:Nat}{e:Ty}{l:List e.den}(hk:H k=some (.own e l)): ∃ad cp,ν k= .slice ad l.length cp:=by
 have:=hm.jk k _ hk
 simp only[ER]at this
 rcases this with⟨rfl,a,hv⟩|⟨b,cs,t,cap,hv,_⟩
 ·exact⟨a,0,hv⟩
 ·exact⟨_,cap,hv⟩
theorem zW(hE:EnvTy P E)(hc:Core c σ a.tmps w M ν){t:TypeId}{x y:Operand}(ho:o.op= .store t x y){K:fL α}{τ:Ty}(ht:E.ty t=some τ){id k:Nat}{q:List Step}{e:Ty}{υ:Ty}{z:υ.den}
  (hx:σ.ρ x= .fR id q) (hy:σ.ρ y= .ref k) {en:aR} (aU:σ.H id=some en) (hen:en.mut) (CP:en.iA (.ed υ z q k)) (hq:eL q υ (.slice e)=true)
  (mT: ∃b cs te oG u,ν id= .pointer (some ⟨b,0,none⟩)∧w.heap[b]? =some (.cells cs te (0,0))∧Rd w M υ oG z∧cs.toList=dv oG (bO q υ) [u])
  (h:xu τ id k e q υ z σ.H K=some r) (hn:eb c σ a o w M ν K r next):o.wp P a w next Q:=by
 unfold xu at h
 split at h
 ·rename_i e' l hk
  obtain⟨e1,h1⟩:=dU h
  clear h
  subst e1
  obtain⟨e2,h2⟩:=dU h1
  clear h1
  subst e2
  obtain⟨z',hK,B7,BW,tc⟩:=lH h2
  obtain⟨b,cs,te,oG,u,hb,hg,hr,Ej⟩:=mT
  have Kg:=(gV hq).1
  obtain⟨ad,cp,hνk⟩:=ER.Ny hc.mem hk
  have yH:=hc.ev y
  rw[hy]at yH
  simp only[VR]at yH
  have yH:=yH.2
  have BW:=BW Kg
  have hlen:=hr.length
  have Mi:(Ty.slice e').size=1:=rfl
  have dD:bO q υ<oG.length:=by omega
  have El:cs.toList.length=oG.length:=by rw[Ej];exact ew (by simp;omega)
  have hv:=hc.ev x
  rw[hx]at hv
  simp only[VR]at hv
  obtain⟨e3,he3,kC⟩:=hv
  rw[aU]at he3;cases he3
  have kC:=kC.iA CP
  simp only[AR]at kC
  obtain⟨_,b',dJ,hu⟩:=kC
  rw[hb]at dJ;cases dJ
  have hyc:(a.eval y).cells.toList=[ν k]:=by rw[yH,hνk];rfl
  have pY:(a.eval y).cells.size=(Ty.slice e').size:=by rw[←Array.length_toList,hyc];rfl
  have cO:=jU (P:=P) ho (hE.ty t _ ht) hu hg pY (by rw[←Array.length_toList];omega) (by rw[hyc,hνk];simp[Value.oneCell'])
  have oq:(cs.toList.take (bO q υ)++(a.eval y).cells.toList++cs.toList.drop (bO q υ+(a.eval y).cells.toList.length))=dv oG (bO q υ) [ν k]:=by
   rw[hyc]
   show dv cs.toList (bO q υ) [ν k]=_
   rw[Ej,CN dD]
  rw[oq]at cO
  have hrz:Rd w M υ (dv oG (bO q υ) [.slice none 0 0]) z':=tc w M oG [.slice none 0 0] Kg hr (Rd.zero w M (.slice e'))
  have fb:Tr c σ.H w M ν (bu σ.H id (some (.ed υ z' q k))) (w.setRow b (dv oG (bO q υ) [ν k]).toArray) M ν:=by
   refine Tr.write (e':= .ed υ z' q k) hc.mem aU hen trivial (by cases en<;>simp only[aR.iA]at CP ⊢ <;>exact CP) (by rw[hb];rfl) hg (fun JP zX wG=> ?_) (fun τ' x' p' j' hl=> ?_)
   ·simp only[ER]
    refine⟨b,_,te,dv oG (bO q υ) [.slice none 0 0],ν k,hb,setRow_heap w b cs _ te _ hg,wG,hrz.bP zX,?_,by rw[hνk];rfl,e',hq⟩
    rw[CN dD]
   ·cases hl
    refine⟨by rw[hk];simp,b,hb,?_⟩
    rw[cell_of (setRow_heap w b cs _ te _ hg),←Array.getElem?_toList]
    show(dv oG (bO q υ) [ν k])[bO q υ]? =_
    rw[zj dD]
  exact nE cO (hn _ _ _ _ _ M ν hK fb (by simp[VR]))
 ·cases h
theorem zY(hE:EnvTy P E)(hc:Core c σ a.tmps w M ν){t:TypeId}{x y:Operand}(ho:o.op= .store t x y){K:fL α}{τ:Ty}(ht:E.ty t=some τ)
  (h:gz E τ (σ.ρ x) (σ.ρ y) σ.H K=some r) (hn:eb c σ a o w M ν K r next):o.wp P a w next Q:=by
 have hold:iV τ (σ.ρ x) (σ.ρ y) σ.H K=some r→o.wp P a w next Q:=fun h=>Nx hE hc ho ht h hn
 unfold gz at h
 simp only at h
 split at h
 ·rename_i id p hx
  have ry:=hx
  split at h
  ·rename_i υ z aU
   split at h
   ·rename_i q e k pB hy
    cases hp:F7 p q
    ·rw[hp]at h;exact hold h
    ·rw[hp]at h
     simp only[cond_true]at h
     have:=wD hp
     subst this
     have hq:=pF pB
     have jD:=hc.mem.jk id _ aU
     simp only[ER]at jD
     obtain⟨b,cs,te,hb,hg,hM,hr⟩:=jD
     have dD:bO p υ<cs.toList.length:=by
      obtain⟨_,_,td⟩:=pz hq z
      have:=td.bound (gV hq).1
      have h2:=td.eq.2
      have:=hr.length
      have:(Ty.slice e).size=1:=rfl
      omega
     refine zW hE hc ho ht hx hy aU trivial rfl hq ⟨b,cs,te,cs.toList,cs.toList[bO p υ],hb,hg,hr,?_⟩ h hn
     exact(Gi (List.getElem?_eq_getElem dD)).symm
   ·exact hold h
  ·rename_i υ z q j aU
   obtain⟨b,cs,te,oG,e0,hb,hg,hM,hr,Ej,h1,hq,dD,hj⟩:=hc.mem.linked aU
   have u6:iT true (σ.ρ y) σ.H τ (fun y rd ups=>rj τ y p υ z fun z=>K .any (id::rd) (ups++[(id,some (cond (s7 p q) (.obj υ z) (.ed υ z q j)))]))=some r→o.wp P a w next Q:=by
    intro h
    obtain⟨u,rd,ups,M',h,fb,hV,hz,ic⟩:=kR (.refl _) hc.mem (hc.ev y) h
    have mj:=hz.ed aU
    have hv:=hc.ev x
    rw[hx]at hv
    have hvz:=VR.bP fb.bP fb.goes hv
    simp only[VR]at hvz
    obtain⟨e1,Kh,kC⟩:=hvz
    rw[mj]at Kh;cases Kh
    simp only[AR]at kC
    obtain⟨hi,b1,kB,hu⟩:=kC
    rw[hb]at kB;cases kB
    obtain⟨b2,cs2,te2,cs3,e3,tb,Ki,Ek,S1,TB,h12,hq2,agH,hj2⟩:=fb.mem.linked mj
    rw[hb]at tb;cases tb
    rw[hg]at Ki;cases Ki
    obtain⟨z',hK,B7,BW,tc⟩:=lH h
    have BW:=BW hi
    have Tw:=S1.length
    have El:cs.toList.length=cs3.length:=by rw[TB];exact ew (by simp;omega)
    have hcy:=hV.cells.length
    rw[Array.length_toList]at hcy
    have at7:(a.eval y).cells.toList.length=τ.size:=by rw[Array.length_toList];exact hcy
    have cO:=jU (P:=P) ho (hE.ty t _ ht) hu hg hcy (by rw[←Array.length_toList];omega) hV.cells.ln
    have PK:cs.toList.take (bO p υ)++(a.eval y).cells.toList++cs.toList.drop (bO p υ+(a.eval y).cells.toList.length)=dv cs.toList (bO p υ) (a.eval y).cells.toList:=rfl
    rw[PK]at cO
    have hzr:=tc w M' cs3 _ hi S1 hV.cells
    have fin: ∀e',e'.mut→aR.iA (.ed υ z q j) e'→K .any (id::rd) (ups++[(id,some e')])=some r→(∀JP,du w M' (w.setRow b (dv cs.toList (bO p υ) (a.eval y).cells.toList).toArray) JP→JP b→ER (w.setRow b (dv cs.toList (bO p υ) (a.eval y).cells.toList).toArray) JP (ν id) e')→
      (∀τ' x' p' j',e'= .ed τ' x' p' j'→(cc σ.H ups) j'≠none∧ ∃b',ν id= .pointer (some ⟨b',0,none⟩)∧(w.setRow b (dv cs.toList (bO p υ) (a.eval y).cells.toList).toArray).cell? ⟨b',bO p' τ',none⟩=some (ν j'))→o.wp P a w next Q:=by
     intro e' gQ FW hK Nt pB
     have rL:=Tr.write (e':=e') fb.mem mj trivial gQ FW (by rw[hb];rfl) hg Nt pB
     refine nE cO (hn _ _ _ _ _ M' ν hK ?_ (by simp[VR]))
     rw[eg]
     exact fb.trans rL
    cases BT:s7 p q
    ·rw[BT]at hK
     simp only[cond_false]at hK
     obtain⟨yy,oo,td⟩: ∃y o,Ef p υ z τ y o:=zV h
     have hap:=td.apart hi hq BT
     have hoo:=td.eq.2
     subst hoo
     have ZV:dv cs.toList (bO p υ) (a.eval y).cells.toList=dv (dv cs3 (bO p υ) (a.eval y).cells.toList) (bO q υ) [ν j]:=by
      rw[TB]
      exact PJ (by simp only[List.length_singleton];omega) (by simp only[List.length_singleton];omega) (by omega)
     have SZ:=ew (a:=cs3) (o:=bO p υ) (new:=(a.eval y).cells.toList) (by omega)
     refine fin (.ed υ z' q j) trivial rfl hK (fun JP hk wG=> ?_) (fun τ' x' p' j' hl=> ?_)
     ·simp only[ER]
      exact⟨b,_,te,_,ν j,hb,setRow_heap w b cs _ te _ hg,wG,hzr.bP hk,ZV,h1,e0,hq⟩
     ·cases hl
      refine⟨hj2,b,hb,?_⟩
      rw[cell_of (setRow_heap w b cs _ te _ hg),←Array.getElem?_toList]
      show(dv cs.toList (bO p υ) (a.eval y).cells.toList)[bO q υ]? =_
      rw[ZV,zj (by omega)]
    ·rw[BT]at hK
     simp only[cond_true]at hK
     refine fin (.obj υ z') trivial rfl hK (fun JP hk wG=> ?_) (fun τ' x' p' j' hl=>by cases hl)
     simp only[ER]
     refine⟨b,_,te,hb,setRow_heap w b cs _ te _ hg,wG,?_⟩
     show Rd _ _ υ (dv cs.toList (bO p υ) (a.eval y).cells.toList) z'
     have gC:=CO BT hq
     rw[B7]at gC
     have ho:dv cs.toList (bO p υ) (a.eval y).cells.toList=dv cs3 (bO p υ) (a.eval y).cells.toList:=by
      rw[TB]
      exact Gq (by simp only[List.length_singleton];omega) (by simp only[List.length_singleton];omega) (by omega)
     have h9:=hzr.bP hk
     rw[←ho]at h9
     exact h9
   split at h
   ·rename_i q' e k pB hy
    cases hp:(F7 p q&&F7 q q')
    ·rw[hp]at h;exact u6 h
    ·rw[hp]at h
     simp only[cond_true]at h
     rw[Bool.and_eq_true]at hp
     have:=wD hp.1
     subst this
     have:=wD hp.2
     subst this
     refine zW hE hc ho ht hx hy aU trivial rfl (pF pB) ⟨b,cs,te,oG,ν j,hb,hg,hr,Ej⟩ h hn
   ·exact u6 h
  ·exact hold h
 ·exact hold h
theorem Nz(hE:EnvTy P E)(hc:Core c σ a.tmps w M ν){t:TypeId}{x y:Operand}(ho:o.op= .store t x y){K:fL α}{τ:Ty}(ht:E.ty t=some τ)
  (h:pa E τ (σ.ρ x) (σ.ρ y) σ.H K=some r) (hn:eb c σ a o w M ν K r next):o.wp P a w next Q:=by
 unfold pa at h
 split at h
 ·rename_i id υ z n hx hy
  split at h
  ·rename_i m e pB
   cases zU:Nat.beq m n
   ·rw[zU]at h
    simp only[cond_false]at h
    exact zY hE hc ho ht h hn
   ·rw[zU]at h
    simp only[cond_true]at h
    have zU:=Nat.eq_of_beq_eq_true zU
    subst zU
    obtain⟨e1,h1⟩:=dU h
    clear h
    subst e1
    have hq:=pF pB
    have yH:=hc.ev y
    rw[hy]at yH
    simp only[VR]at yH
    obtain⟨hV,cs,ad,hva,hz⟩:=yH
    have hcy:(a.eval y).cells=cs:=by rw[hva];rfl
    obtain⟨en,aU,hen,hK⟩: ∃en:aR,σ.H id=some en∧(∃z0,en= .obj τ z0∨ ∃q j,en= .ed τ z0 q j)∧σ.H (id+2)=none∧K .any [id,id+2] [(id,some (.ed τ z [.gP m] (id+2))),(id+2,some (.own e []))]=some r:=by
     unfold jT at h1
     split at h1
     ·rename_i υ z0 aU
      obtain⟨e2,h2⟩:=dU h1
      clear h1
      subst e2
      obtain⟨h3,h4⟩:=iB h2
      exact⟨_,aU,⟨z0,.inl rfl⟩,h3,h4⟩
     ·rename_i υ z0 q j aU
      obtain⟨e2,h2⟩:=dU h1
      clear h1
      subst e2
      obtain⟨h3,h4⟩:=iB h2
      exact⟨_,aU,⟨z0,.inr ⟨q,j,rfl⟩⟩,h3,h4⟩
     ·cases h1
     ·cases h1
     ·cases h1
    obtain⟨hk,hK⟩:=hK
    have amM:en.mut:=by rcases hen with⟨z0,rfl|⟨q,j,rfl⟩⟩<;>trivial
    have CP:en.iA (.obj τ z):=by rcases hen with⟨z0,rfl|⟨q,j,rfl⟩⟩<;>rfl
    obtain⟨b,oG,te,hb,hg,pY⟩: ∃b oG te,ν id= .pointer (some ⟨b,0,none⟩)∧w.heap[b]? =some (.cells oG te (0,0))∧oG.toList.length=τ.size:=by
     rcases hen with⟨z0,rfl|⟨q,j,rfl⟩⟩
     ·have:=hc.mem.jk id _ aU
      simp only[ER]at this
      obtain⟨b,oG,te,h2,h3,_,h5⟩:=this
      exact⟨b,oG,te,h2,h3,h5.length⟩
     ·obtain⟨b,oG,te,uO,_,h2,h3,_,h5,h6,_,_,h7,_⟩:=hc.mem.linked aU
      refine⟨b,oG,te,h2,h3,?_⟩
      rw[h6,ew (by simp only[List.length_singleton];omega),h5.length]
    have hv:=hc.ev x
    rw[hx]at hv
    simp only[VR]at hv
    obtain⟨e3,he3,kC⟩:=hv
    rw[aU]at he3;cases he3
    have kC:=kC.iA CP
    simp only[AR]at kC
    obtain⟨_,b',dJ,hu⟩:=kC
    rw[hb]at dJ;cases dJ
    have El:=hV.cells.length
    have cO:=jU (P:=P) ho (hE.ty t _ ht) hu hg (by rw[←Array.length_toList];exact El) (by rw[←Array.length_toList,pY];simp[bO]) hV.cells.ln
    have PK:oG.toList.take (bO [] τ)++(a.eval y).cells.toList++oG.toList.drop (bO [] τ+(a.eval y).cells.toList.length)=(a.eval y).cells.toList:=by
     simp only[bO,List.take_zero,List.nil_append,Nat.zero_add]
     rw[List.drop_of_length_le (by omega),List.append_nil]
    rw[PK]at cO
    have tc:=setRow_heap w b oG (a.eval y).cells.toList.toArray te _ hg
    have fb:=Tr.write (e':= .obj τ z) (new:=(a.eval y).cells.toList.toArray) hc.mem aU amM trivial CP (by rw[hb];rfl) hg (fun JP zX wG=>by
     simp only[ER]
     exact⟨b,_,te,hb,tc,wG,hV.cells.bP zX⟩)
    have gk:id+2≠id:=by omega
    have rL:=Tr.PH fb.mem (id:=id) (k:=id+2) (by rw[an _ _ gk];exact hk) (ak _ _ _) hb tc hq (ad:=ad) (by rw[hcy];simpa [bO]using hz)
    have e1:cc (bu σ.H id (some (.obj τ z))) [(id,some (.ed τ z [.gP m] (id+2))),(id+2,some (.own e []))]=cc σ.H [(id,some (.ed τ z [.gP m] (id+2))),(id+2,some (.own e []))]:=by
     show bu (bu (bu σ.H id _) id _) (id+2) _=bu (bu σ.H id _) (id+2) _
     rw[tR]
    rw[e1]at rL
    exact nE cO (hn _ _ _ _ _ _ _ hK (fb.trans rL) (by simp[VR]))
  ·exact zY hE hc ho ht h hn
 ·exact zY hE hc ho ht h hn
end VM
end
section
namespace VM
open Go
variable{P:Program}{E:Env}{o:Oper}{a:Act}{w:World}{M:Nat→Prop}{ν:Nat→Value}{σ:St}{c:Ctx}{α:Type}{r:α}{next:Act→World→Prop}{Q:Exit→Act→World→Prop}
theorem nb{n:Nat}(h:Nat.beq n 0=false):n≠0:=by rw[←Bool.not_eq_true,Nat.beq_eq]at h;exact h
theorem At.sub{b off:Nat}{cs:List Value}(h:At w b off cs)(o n:Nat):At w b (off+o) ((cs.drop o).take n):=by
 intro j v hj
 rw[List.getElem?_take]at hj
 split at hj
 ·rw[List.getElem?_drop]at hj
  have:=h _ v hj
  rwa [←Nat.add_assoc]at this
 ·cases hj
def rM:aR→List Step→Option Ty
 | .obj τ _,p=>some (B3 p τ)
 | .ed τ _ _ _,p=>some (B3 p τ)
 | .own e _,.idx _::p| .lj e _,.idx _::p=>some (B3 p e)
 |_,_=>none
theorem zZ{id:Nat}{p:List Step}{H:Nat→Option aR}{k:Ty→Option α}(h:jT id p H k=some r): ∃e υ,H id=some e∧rM e p=some υ∧k υ=some r:=by
 unfold jT at h
 split at h
 ·rename_i τ x aU
  obtain⟨υ,y,o,hp,hk⟩:=gB h
  exact⟨_,υ,aU,by simp[rM,hp.eq.1],hk⟩
 ·rename_i τ x _ _ aU
  obtain⟨υ,y,o,hp,hk⟩:=gB h
  exact⟨_,υ,aU,by simp[rM,hp.eq.1],hk⟩
 ·rename_i e l aU
  split at h
  ·obtain⟨υ,y,o,hp,hk⟩:=gB h
   exact⟨_,υ,aU,by simp[rM,hp.eq.1],hk⟩
  ·cases h
 ·rename_i e l aU
  split at h
  ·obtain⟨υ,y,o,hp,hk⟩:=gB h
   exact⟨_,υ,aU,by simp[rM,hp.eq.1],hk⟩
  ·cases h
 ·cases h
theorem AR.step{v:Value}{p:List Step}{u:Value}{e:aR}{υ:Ty}(h:AR v p u e)(ht:rM e p=some υ)(s:Step)(hs:ta [s] υ):
  ∃b off,u= .pointer (some ⟨b,off,none⟩)∧AR v (p++[s]) (.pointer (some ⟨b,off+bO [s] υ,none⟩)) e:=by
 cases e with
 |obj τ x=>
  simp only[rM,Option.some.injEq]at ht
  simp only[AR]at h ⊢
  obtain⟨hi,b,hb,rfl⟩:=h
  subst ht
  exact⟨b,_,rfl,(oF p [s] τ).2 ⟨hi,hs⟩,b,hb,by rw[oE]⟩
 |ed τ x _ _=>
  simp only[rM,Option.some.injEq]at ht
  simp only[AR]at h ⊢
  obtain⟨hi,b,hb,rfl⟩:=h
  subst ht
  exact⟨b,_,rfl,(oF p [s] τ).2 ⟨hi,hs⟩,b,hb,by rw[oE]⟩
 |own e l=>
  simp only[AR]at h ⊢
  obtain⟨i,q,rfl,B6,hi,b,n,cp,hb,rfl⟩:=h
  simp only[rM,Option.some.injEq]at ht
  subst ht
  exact⟨b,_,rfl,i,q++[s],rfl,B6,(oF q [s] e).2 ⟨hi,hs⟩,b,n,cp,hb,by rw[oE,Nat.add_assoc]⟩
 |lj e l=>
  simp only[AR]at h ⊢
  obtain⟨i,q,rfl,B6,hi,b,n,cp,hb,rfl⟩:=h
  simp only[rM,Option.some.injEq]at ht
  subst ht
  exact⟨b,_,rfl,i,q++[s],rfl,B6,(oF q [s] e).2 ⟨hi,hs⟩,b,n,cp,hb,by rw[oE,Nat.add_assoc]⟩
 |gone=>simp[rM]at ht
theorem wH(hE:EnvTy P E)(hc:Core c σ a.tmps w M ν){t:TypeId}{x:Operand}{n:Nat}(ho:o.op= .fieldAddr t x n){K:fL α}{τ:Ty}(ht:E.ty t=some τ){id:Nat}{p:List Step}(hx:σ.ρ x= .fR id p)
  (h:jT id p σ.H (fun υ=>jS υ τ (s8 τ τ.zero n fun υ' _=>cond (Nat.beq υ'.size 0) none (K (.fR id (p++[.gP n])) [id] [])))=some r) (hn:eb c σ a o w M ν K r next):o.wp P a w next Q:=by
 obtain⟨e,υ,aU,het,h⟩:=zZ h
 obtain⟨he_,h_⟩:=dU h
 clear h
 subst he_
 have h:=h_
 clear h_
 obtain⟨υ',y,of,hf,h⟩:=px h
 obtain⟨hz,h⟩:=jl h
 have hv:=hc.ev x
 rw[hx]at hv
 simp only[VR]at hv
 obtain⟨e',tz,kC⟩:=hv
 rw[aU]at tz;cases tz
 obtain⟨b,off,hu,abh⟩:=kC.step het (.gP n) trivial
 obtain⟨fs,f,JR,hff,hfo,PL⟩:=(hE.ty t υ ht).gP hf
 obtain⟨v,cO,hvv⟩:=pE (P:=P) ho (w:=w) JR hff PL (nb hz) hu
 refine aM cO (hn _ _ _ _ _ M ν h (.refl hc.mem) ?_)
 simp only[VR]
 refine⟨e,aU,?_⟩
 rw[hvv,hfo,hf.eq.2]
 simpa [bO]using abh
theorem u7(hE:EnvTy P E)(hc:Core c σ a.tmps w M ν){t:TypeId}{x:Operand}{n:Nat}(ho:o.op= .fieldAddr t x n){K:fL α}{τ:Ty}(ht:E.ty t=some τ){υ:Ty}{z:υ.den}(hx:σ.ρ x= .nw υ z)
  (h:jS υ τ (s8 υ z n fun υ y=>cond (Nat.beq υ.size 0) none (K (.nw υ y) [] []))=some r) (hn:eb c σ a o w M ν K r next):o.wp P a w next Q:=by
 obtain⟨he,h1⟩:=dU h
 subst he
 obtain⟨υ',y,of,hf,h⟩:=px h1
 obtain⟨hz,h⟩:=jl h
 have hv:=hc.ev x
 rw[hx]at hv
 simp only[VR]at hv
 obtain⟨b,off,hu,hb,hM,cs,ll,hr⟩:=hv
 obtain⟨fs,f,JR,hff,hfo,PL⟩:=(hE.ty t υ ht).gP hf
 obtain⟨v,cO,hvv⟩:=pE (P:=P) ho (w:=w) JR hff PL (nb hz) hu
 refine aM cO (hn _ _ _ _ _ M ν h (.refl hc.mem) ?_)
 simp only[VR]
 exact⟨b,off+f.offset,hvv,hb,hM,_,by rw[hfo];exact ll.sub of υ'.size,hf.rd hr⟩
theorem V.agg{τ:Ty}(ha:τ.isAgg=true){v:Value}{x:τ.den}(h:V w M τ v x): ∃cs,v= .agg cs∧Rd w M τ cs.toList x:=by
 unfold V at h;rw[if_pos ha]at h;exact h
theorem yB.agg{τ:Ty}{x:τ.den}{n:Nat}{υ:Ty}{y:υ.den}{o:Nat}(h:yB τ x n υ y o):τ.isAgg=true:=by cases h<;>rfl
theorem PM(hE:EnvTy P E)(hc:Core c σ a.tmps w M ν){t:TypeId}{x:Operand}{n:Nat}(ho:o.op= .field t x n){K:fL α}{τ:Ty}(ht:E.ty t=some τ){υ:Ty}{z:υ.den}(hx:σ.ρ x= .val υ z)
  (h:jS υ τ (s8 υ z n fun υ y=>K (.val υ y) [] [])=some r) (hn:eb c σ a o w M ν K r next):o.wp P a w next Q:=by
 obtain⟨he,h1⟩:=dU h
 subst he
 obtain⟨υ',y,of,hf,h⟩:=px h1
 have hv:=hc.ev x
 rw[hx]at hv
 simp only[VR]at hv
 obtain⟨cs,hu,hr⟩:=hv.agg hf.agg
 obtain⟨fs,f,JR,hff,hfo,PL⟩:=(hE.ty t υ ht).gP hf
 have dw:=hf.rd hr
 refine aM (Ei ho JR hff PL hu (by rw[hfo];exact dw)) (hn _ _ _ _ _ M ν h (.refl hc.mem) ?_)
 simp only[VR]
 rw[hfo]
 exact V.bT dw
theorem Em(hE:EnvTy P E)(hc:Core c σ a.tmps w M ν){t:TypeId}{x i:Operand}(ho:o.op= .indexAddr t x i){K:fL α}{τ:Ty}(ht:E.ty t=some τ)
  (h:eu τ (σ.ρ x) (σ.ρ i) σ.H K=some r) (hn:eb c σ a o w M ν K r next):o.wp P a w next Q:=by
 unfold eu at h
 obtain⟨k,n,hi,h2⟩:=jV h
 clear h
 have h:=h2
 clear h2
 have Mj:=hc.ev i
 rw[hi]at Mj
 have Mj:=Mj.int
 have hv:=hc.ev x
 have u5:=hE.ty t τ ht
 split at h
 ·
  rename_i e
  obtain⟨e',JR,hle⟩:=u5.slice
  split at h
  ·rename_i υ l hx
   obtain⟨e1,h⟩:=ba h
   subst e1
   obtain⟨gC,h⟩:=bM h
   obtain⟨h0,h1⟩:=p8 gC
   have h1:n<(List.length l:Int):=h1
   rw[hx]at hv
   simp only[VR]at hv
   have hv:=V.slice.1 hv
   simp only[Rd,List.cons.injEq,and_true]at hv
   obtain⟨ad,cap,hu,agK,hr⟩:=hv
   obtain⟨b,off,rfl,hb,hM,cs,ll,ic⟩:=hr n.toNat (by omega)
   refine aM (im ho JR hle hu Mj h0 h1) (hn _ _ _ _ _ M ν h (.refl hc.mem) ?_)
   simp only[VR]
   refine⟨b,_,rfl,hb,hM,cs,ll,?_⟩
   have:Rd w M e cs (List.getD l n.toNat e.zero):=by rw[gU l n.toNat e.zero (by omega)];exact ic
   exact this
  ·rename_i id hx
   rw[hx]at hv
   simp only[VR]at hv
   obtain⟨_,hu⟩:=hv
   split at h
   ·rename_i e2 l aU
    obtain⟨he_,h_⟩:=dU h
    clear h
    subst he_
    have h:=h_
    clear h_
    obtain⟨gC,h⟩:=bM h
    obtain⟨h0,h1⟩:=p8 gC
    have jD:=hc.mem.jk id _ aU
    simp only[ER]at jD
    rcases jD with⟨rfl,_⟩|⟨b,cs,te,cap,hb,hg,hM,Pp,hl,zO,hs,hr⟩
    ·simp at h1;omega
    ·rw[hb]at hu
     refine aM (im ho JR hle hu Mj h0 h1) (hn _ _ _ _ _ M ν h (.refl hc.mem) ?_)
     simp only[VR]
     refine⟨_,aU,?_⟩
     simp only[AR]
     exact⟨n.toNat,[],rfl,by omega,trivial,b,_,_,hb,by simp[bO]⟩
   ·rename_i e2 l aU
    obtain⟨he_,h_⟩:=dU h
    clear h
    subst he_
    have h:=h_
    clear h_
    obtain⟨gC,h⟩:=bM h
    obtain⟨h0,h1⟩:=p8 gC
    have jD:=hc.mem.jk id _ aU
    simp only[ER]at jD
    obtain⟨ic,hhd⟩:=jD
    simp only[Rd,List.cons.injEq,and_true]at ic
    obtain⟨ad,cap,hb,agK,hr⟩:=ic
    rcases hhd with⟨rfl,_⟩|⟨b,n2,c2,tb⟩
    ·simp at h1;omega
    ·rw[hb]at tb;cases tb
     rw[hb]at hu
     refine aM (im ho JR hle hu Mj h0 h1) (hn _ _ _ _ _ M ν h (.refl hc.mem) ?_)
     simp only[VR]
     refine⟨_,aU,?_⟩
     simp only[AR]
     exact⟨n.toNat,[],rfl,by omega,trivial,b,_,_,hb,by simp[bO]⟩
   ·cases h
  ·cases h
 ·
  rename_i len e
  obtain⟨e',JR,hle⟩:=u5.arr
  split at h
  ·rename_i id p hx
   obtain⟨en,υ,aU,het,h⟩:=zZ h
   obtain⟨he_,h_⟩:=dU h
   clear h
   subst he_
   have h:=h_
   clear h_
   obtain⟨gC,h⟩:=bM h
   obtain⟨h0,h1⟩:=p8 gC
   rw[hx]at hv
   simp only[VR]at hv
   obtain⟨en',tz,kC⟩:=hv
   rw[aU]at tz;cases tz
   obtain⟨b,off,hu,abh⟩:=kC.step het (.idx n.toNat) ⟨⟨len,e,rfl,by omega⟩,trivial⟩
   refine aM (oJ ho JR hle hu Mj h0 h1) (hn _ _ _ _ _ M ν h (.refl hc.mem) ?_)
   simp only[VR]
   refine⟨en,aU,?_⟩
   simpa [bO,elT]using abh
  ·rename_i υ l hx
   obtain⟨e1,h⟩:=ba h
   subst e1
   obtain⟨gC,h⟩:=bM h
   obtain⟨h0,h1⟩:=p8 gC
   rw[hx]at hv
   simp only[VR]at hv
   obtain⟨b,off,hu,hb,hM,cs,ll,hr⟩:=hv
   refine aM (oJ ho JR hle hu Mj h0 h1) (hn _ _ _ _ _ M ν h (.refl hc.mem) ?_)
   simp only[VR]
   exact⟨b,_,rfl,hb,hM,_,ll.sub _ e.size,hr.idx (by omega)⟩
  ·cases h
 ·cases h
theorem yI(hc:Core c σ a.tmps w M ν){x:Operand}(ho:o.op= .nilCheck x){K:fL α}{id:Nat}{p:List Step}(hx:σ.ρ x= .fR id p)
  (h:K (.fR id p) [] []=some r) (hn:eb c σ a o w M ν K r next):o.wp P a w next Q:=by
 have hv:=hc.ev x
 have PN:=hv
 rw[hx]at hv
 simp only[VR]at hv
 obtain⟨e,he,kC⟩:=hv
 obtain⟨ad,hu⟩:=kC.ptr
 refine aM (q4 ho hu) (hn _ _ _ _ _ M ν h (.refl hc.mem) ?_)
 rw[←hu,←hx];exact PN
theorem wI(hc:Core c σ a.tmps w M ν){x:Operand}(ho:o.op= .nilCheck x){K:fL α}{τ:Ty}{z:τ.den}(hx:σ.ρ x= .nw τ z)
  (h:K (.nw τ z) [] []=some r) (hn:eb c σ a o w M ν K r next):o.wp P a w next Q:=by
 have hv:=hc.ev x
 have PN:=hv
 rw[hx]at hv
 simp only[VR]at hv
 obtain⟨b,off,hu,_⟩:=hv
 refine aM (q4 ho hu) (hn _ _ _ _ _ M ν h (.refl hc.mem) ?_)
 rw[←hu,←hx];exact PN
theorem fT.get{H:Nat→Option aR}: ∀{mR:List a7} {vs:List Value},fT w M H ν mR vs→ ∀{i:Nat} {x:a7},mR[i]? =some x→ ∃v,vs[i]? =some v∧VR w M H ν x v
 |[],_,_,i,x,hx=>by simp at hx
 |y::mR,[],h,_,_,_=>by simp[fT]at h
 |y::mR,v::vs,h,0,x,hx=>by
  simp only[fT]at h
  simp at hx;subst hx
  exact⟨v,rfl,h.1⟩
 |y::mR,v::vs,h,i+1,x,hx=>by
  simp only[fT]at h
  exact fT.get h.2 (by simpa using hx)
theorem Kj(hc:Core c σ a.tmps w M ν){x:Operand}{i:Nat}(ho:o.op= .extract x i){K:fL α}{vs:List a7}{v:a7}(hx:σ.ρ x= .tup vs)(hi:vs[i]? =some v)
  (h:K v [] []=some r) (hn:eb c σ a o w M ν K r next):o.wp P a w next Q:=by
 have hv:=hc.ev x
 rw[hx]at hv
 simp only[VR]at hv
 obtain⟨us,hu,TC⟩:=hv
 obtain⟨u,hui,hvu⟩:=TC.get hi
 exact aM (zR ho hu hui) (hn _ _ _ _ _ M ν h (.refl hc.mem) hvu)
theorem Core.evs(hc:Core c σ a.tmps w M ν): ∀xs:List Operand,fT w M σ.H ν (xs.map σ.ρ) (xs.map a.eval)
 |[]=>by simp[fT]
 |x::xs=>by simp only[List.map_cons,fT];exact⟨hc.ev x,hc.evs xs⟩
theorem rN: ∀{mR:List a7} {vs:List Value} {H:Nat→Option aR} {M:Nat→Prop} {K:List a7→List Nat→fK→Option α},Mem c H w M ν→fT w M H ν mR vs→rF H mR K=some r→
  ∃cs rd ups M',K cs rd ups=some r∧Tr c H w M ν (cc H ups) w M' ν∧fT w M' (cc H ups) ν cs vs
 |[],vs,H,M,K,hm,hv,h=>⟨[],[],[],M,h,.refl hm,hv⟩
 |x::xs,[],H,M,K,hm,hv,h=>by simp[fT]at hv
 |x::xs,v::vs,H,M,K,hm,hv,h=>by
  simp only[fT]at hv
  unfold rF at h
  split at h
  ·rename_i id
   split at h
   ·rename_i τ z aU
    obtain⟨M1,b,ht,hb,dD,hM,oG,ll,ic⟩:=Tr.fix hm aU
    obtain⟨cs,rd,ups,M2,hK,S2,TD⟩:=rN ht.mem (fT.bP ht.bP ht.goes hv.2) h
    refine⟨_,_,_,M2,hK,ht.trans S2,?_⟩
    have h1:VR w M1 (bu H id (some .gone)) ν (.nw τ z) v:=by
     have Gs:=hv.1
     simp only[VR]at Gs ⊢
     obtain⟨e,he,kC⟩:=Gs
     rw[aU]at he;cases he
     simp only[AR]at kC
     obtain⟨_,b',dJ,Gs⟩:=kC
     rw[hb]at dJ;cases dJ
     exact⟨b,0,Gs,dD,hM,oG,ll,ic⟩
    simp only[fT]
    exact⟨VR.bP S2.bP S2.goes h1,TD⟩
   ·cases h
  ·obtain⟨cs,rd,ups,M2,hK,S2,TD⟩:=rN hm hv.2 h
   refine⟨_,_,_,M2,hK,S2,?_⟩
   simp only[fT]
   exact⟨VR.bP S2.bP S2.goes hv.1,TD⟩
theorem Gt(hc:Core c σ a.tmps w M ν){f:FuncId}{first caps:Array Operand}(ho:o.op= .makeFunc (.func f) first caps){K:fL α}
  (h:cond first.isEmpty (rF σ.H (caps.toList.map σ.ρ) fun cs rd ups=>K (.F8 f cs) rd ups) none=some r) (hn:eb c σ a o w M ν K r next):o.wp P a w next Q:=by
 obtain⟨hf,h⟩:=bM h
 obtain⟨cs,rd,ups,M',hK,ht,hv⟩:=rN hc.mem (hc.evs _) h
 refine aM (yE ho (by simpa using hf)) (hn _ _ _ _ _ M' ν hK ht ?_)
 simp only[VR]
 exact⟨caps.toList.map a.eval,by congr 1;apply Array.ext';simp,hv⟩
theorem Kk(hE:EnvTy P E)(hc:Core c σ a.tmps w M ν){s d:TypeId}{x:Operand}(ho:o.op= .convert s d x){K:fL α}{τ:Ty}{k:IntKind}(hs:E.ty s=some τ)(hd:E.ty d=some (.int k))
  (h:rC (σ.ρ x) (fun _ n=>K (.val (.int k) (W k n)) [] [])=some r) (hn:eb c σ a o w M ν K r next):o.wp P a w next Q:=by
 obtain⟨k',n,hx,h⟩:=jV h
 have hv:=hc.ev x
 rw[hx]at hv
 refine aM (zS ho (hE.ty s τ hs).isSome (hE.ty d _ hd).int hv.int) (hn _ _ _ _ _ M ν h (.refl hc.mem) ?_)
 rw[yx];exact .mkInt k _
end VM
end
section
namespace VM
open Go
variable{P:Program}{E:Env}{o:Oper}{a:Act}{w:World}{M:Nat→Prop}{ν:Nat→Value}{σ:St}{c:Ctx}{α:Type}{r:α}{next:Act→World→Prop}{Q:Exit→Act→World→Prop}
theorem NA{b:BinOp}{k k':IntKind}{x y:Int}{t:TypeId}{K:a7→Option α}(h:Tp b k x y K=some r):
  ∃z,K (.val (.int k) z)=some r∧(binOp b t (.int k x) (.int k' y)).run P w= .ok (.int k z) w:=by
 unfold Tp at h
 split at h
 ·obtain⟨h0,h⟩:=jl h
  rw[o9]at h0
  have h0: ¬y<0:=by simpa using h0
  refine⟨_,h,?_⟩
  rw[yx,PC]
  simp[binOp,Op.shift,h0]
 ·obtain⟨h0,h⟩:=jl h
  rw[o9]at h0
  have h0: ¬y<0:=by simpa using h0
  refine⟨_,h,?_⟩
  rw[Kb]
  simp[binOp,Op.shift,h0]
 ·cases h
theorem En{b:BinOp}{k:IntKind}{x y:Int}{t:TypeId}{K:a7→Option α}(h:p4 b k x y K=some r):
  ∃v u,K v=some r∧(binOp b t (.int k x) (.int k y)).run P w= .ok u w∧ ∀H,VR w M H ν v u:=by
 unfold p4 at h
 split at h
 ·exact⟨_,_,h,by simp[binOp,Op.intArith,yx],fun H=> .mkInt _ _⟩
 ·exact⟨_,_,h,by simp[binOp,Op.intArith,yx],fun H=> .mkInt _ _⟩
 ·exact⟨_,_,h,by simp[binOp,Op.intArith,yx],fun H=> .mkInt _ _⟩
 ·obtain⟨h0,h⟩:=jl h
  rw[gb]at h0
  have h0: ¬y=0:=by simpa using h0
  exact⟨_,_,h,by simp[binOp,Op.intDiv,yx,D8,h0],fun H=> .mkInt _ _⟩
 ·obtain⟨h0,h⟩:=jl h
  rw[gb]at h0
  have h0: ¬y=0:=by simpa using h0
  exact⟨_,_,h,by simp[binOp,Op.intDiv,PB,h0],fun H=> .mkInt _ _⟩
 ·exact⟨_,_,h,by simp[binOp,Op.intBits,p3],fun H=> .mkInt _ _⟩
 ·exact⟨_,_,h,by simp[binOp,Op.intBits,p3],fun H=> .mkInt _ _⟩
 ·exact⟨_,_,h,by simp[binOp,Op.intBits,p3],fun H=> .mkInt _ _⟩
 ·exact⟨_,_,h,by simp[binOp,Op.intBits,p3],fun H=> .mkInt _ _⟩
 ·exact⟨_,.bool (decide (x=y)),h,by simp[binOp,Op.intCmp];rfl,fun H=>by rw[gb];exact .p7 _⟩
 ·exact⟨_,.bool (!decide (x=y)),h,by simp[binOp,Op.intCmp];rfl,fun H=>by rw[gb];exact .p7 _⟩
 ·exact⟨_,_,h,by simp[binOp,Op.intCmp,o9],fun H=> .p7 _⟩
 ·exact⟨_,_,h,by simp[binOp,Op.intCmp,kN],fun H=> .p7 _⟩
 ·exact⟨_,_,h,by simp[binOp,Op.intCmp,o9],fun H=> .p7 _⟩
 ·exact⟨_,_,h,by simp[binOp,Op.intCmp,kN],fun H=> .p7 _⟩
 ·cases h
theorem NB{t:Option Ty}{op:BinOp}{τ:Ty}{x:τ.den}{υ:Ty}{y:υ.den}{K:a7→Option α}(h:zM t op τ x υ y K=some r):
  (∃(k k':IntKind) (m n:Int),a7.val τ x= .val (.int k) m∧a7.val υ y= .val (.int k') n∧(cond (Tq op) (Tp op k m n K) (if k=k' then p4 op k m n K else none))=some r)∨
  (∃z:τ.den,a7.val υ y= .val τ z∧t=some τ∧τ.comparable=true∧((op= .eql∧K (.val .bool (jO τ x z))=some r)∨(op= .neq∧K (.val .bool (!jO τ x z))=some r))):=by
 unfold zM at h
 split at h
 ·exact .inl ⟨_,_,_,_,rfl,rfl,h⟩
 ·right
  split at h
  ·cases h
  ·obtain⟨e,h1⟩:=dU h
   clear h
   subst e
   obtain⟨hc,h⟩:=bM h1
   clear h1
   split at h
   ·obtain⟨e,h1⟩:=ba h
    subst e
    exact⟨_,rfl,rfl,hc,.inl ⟨rfl,h1⟩⟩
   ·obtain⟨e,h1⟩:=ba h
    subst e
    exact⟨_,rfl,rfl,hc,.inr ⟨rfl,h1⟩⟩
   ·cases h
theorem xz{t:TypeId}(hu:P.underlying t=some .bool)(x y:Bool)(w:World):(Op.equal t (.bool x) (.bool y)).run P w= .ok (x==y) w:=by
 unfold Op.equal
 obtain⟨n,hn⟩: ∃n,Op.maxDepth=n+1:=⟨9999,rfl⟩
 rw[hn]
 simp[Op.equalIn,run_underlying hu]
theorem run_eql_bool{t:TypeId}(hu:P.underlying t=some .bool)(x y:Bool):(binOp .eql t (.bool x) (.bool y)).run P w= .ok (.bool (x==y)) w:=by
 simp[binOp,xz hu]
theorem run_neq_bool{t:TypeId}(hu:P.underlying t=some .bool)(x y:Bool):(binOp .neq t (.bool x) (.bool y)).run P w= .ok (.bool (!(x==y))) w:=by
 simp[binOp,xz hu]
theorem agM(x y:ByteArray):(x.toList==y.toList)=decide (x.toList=y.toList):=by
 rw[Bool.eq_iff_iff];simp
theorem Gu{t:TypeId}(x y:ByteArray):(binOp .eql t (.string x) (.string y)).run P w= .ok (.bool (decide (x.toList=y.toList))) w:=by
 simp[binOp,Op.stringOp,agM]
theorem Gv{t:TypeId}(x y:ByteArray):(binOp .neq t (.string x) (.string y)).run P w= .ok (.bool (!decide (x.toList=y.toList))) w:=by
 simp[binOp,Op.stringOp,agM]
theorem PO(hE:EnvTy P E)(hc:Core c σ a.tmps w M ν){b:BinOp}{t t':TypeId}{x y:Operand}(ho:o.op= .binOp b t x y t'){K:fL α}
  (h:Gb (σ.ρ x) (fun τ x=>Gb (σ.ρ y) fun υ y=>zM (E.ty t) b τ x υ y fun v=>K v [] [])=some r) (hn:eb c σ a o w M ν K r next):o.wp P a w next Q:=by
 have hx:=hc.ev x
 have hy:=hc.ev y
 unfold Gb at h
 split at h
 ·rename_i τ x' hxe
  split at h
  ·rename_i υ y' hye
   rw[hxe]at hx;rw[hye]at hy
   rcases NB h with⟨k,k',m,n,e1,e2,h1⟩|⟨z,e2,ht,hcm,h1⟩
   ·rw[e1]at hx;rw[e2]at hy
    have hx:=hx.int
    have hy:=hy.int
    cases hs:Tq b
    ·rw[hs]at h1
     replace h1:(if k=k' then p4 b k m n (fun v=>K v [] [])else none)=some r:=h1
     split at h1
     ·rename_i hk;subst hk
      obtain⟨v,u,hK,cO,hVR⟩:=En (P:=P) (w:=w) (M:=M) (ν:=ν) (t:=t) h1
      exact aM (mS ho (by rw[hx,hy];exact mm w) (by rw[hx,hy];exact cO)) (hn _ [] [] _ _ _ _ hK (.refl hc.mem) (hVR _))
     ·cases h1
    ·rw[hs]at h1
     replace h1:Tp b k m n (fun v=>K v [] [])=some r:=h1
     obtain⟨z,hK,cO⟩:=NA (P:=P) (w:=w) (k':=k') (t:=t) h1
     exact aM (mS ho (by rw[hx,hy];exact mm w) (by rw[hx,hy];exact cO)) (hn _ [] [] _ _ _ _ hK (.refl hc.mem) (.mkInt _ _))
   ·rw[e2]at hy
    have key:(eqGuard b t x y (a.eval x) (a.eval y)).run P w= .ok () w∧(binOp .eql t (a.eval x) (a.eval y)).run P w= .ok (.bool (jO τ x' z)) w∧(binOp .neq t (a.eval x) (a.eval y)).run P w= .ok (.bool (!jO τ x' z)) w:=by
     by_cases Gl:τ.isAgg=true
     ·simp only[VR]at hx hy
      exact hE.eq t τ ht hcm Gl w M _ _ _ _ b x y hx hy
     ·have hl:=hE.ty t τ ht
      cases τ with
      |int k=>
       rw[hx.int,hy.int]
       refine⟨mm w,?_,?_⟩
       ·simp[binOp,Op.intCmp,jO,gb];rfl
       ·simp[binOp,Op.intCmp,jO,gb];rfl
      |bool=>rw[hx.bool,hy.bool];exact⟨wF w,run_eql_bool hl.bool _ _,run_neq_bool hl.bool _ _⟩
      |str=>rw[hx.str,hy.str];exact⟨yF w,by rw[Gu];simp[jO,zL],by rw[Gv];simp[jO,zL]⟩
      |slice e=>simp[Ty.comparable]at hcm
      |unit=>simp[Ty.isAgg]at Gl
      |pair _ _=>simp[Ty.isAgg]at Gl
      |arr _ _=>simp[Ty.isAgg]at Gl
    obtain⟨hg,h2,h3⟩:=key
    rcases h1 with⟨rfl,hK⟩|⟨rfl,hK⟩
    ·exact aM (mS ho hg h2) (hn _ [] [] _ _ _ _ hK (.refl hc.mem) (.p7 _))
    ·exact aM (mS ho hg h3) (hn _ [] [] _ _ _ _ hK (.refl hc.mem) (.p7 _))
  ·cases h
 ·cases h
theorem TE(hc:Core c σ a.tmps w M ν){u:UnOp}{t:TypeId}{x:Operand}(ho:o.op= .unOp u t x){K:fL α}
  (h:Nq u (σ.ρ x) (fun v=>K v [] [])=some r) (hn:eb c σ a o w M ν K r next):o.wp P a w next Q:=by
 have hx:=hc.ev x
 unfold Nq at h
 split at h
 ·rename_i k n hxe
  rw[hxe]at hx
  refine aM (rK ho (v:= .int k (k.wrap (0-n))) ?_) (hn _ [] [] _ _ _ _ h (.refl hc.mem) (by rw[yx];exact .mkInt _ _))
  rw[hx.int];simp[Op.unary,Op.intArith]
 ·rename_i k n hxe
  rw[hxe]at hx
  refine aM (rK ho (v:= .int k (jC .xor k (if k.signed then-1 else k.max) n)) ?_) (hn _ [] [] _ _ _ _ h (.refl hc.mem) (.mkInt _ _))
  rw[hx.int,p3];simp[Op.unary,Op.intBits]
 ·rename_i b hxe
  rw[hxe]at hx
  refine aM (rK ho (v:= .bool (!b)) ?_) (hn _ [] [] _ _ _ _ h (.refl hc.mem) (.p7 _))
  rw[hx.bool];simp[Op.unary]
 ·cases h
end VM
end
section
namespace VM
open Go
variable{P:Program}{E:Env}{o:Oper}{a:Act}{w:World}{M:Nat→Prop}{ν:Nat→Value}{σ:St}{c:Ctx}{α:Type}{r:α}{next:Act→World→Prop}{Q:Exit→Act→World→Prop}
theorem kS{args:Array Operand}{ts:Array TypeId}{t:TypeId}{x:Operand}{n:Nat}(ho:o.op= .call {callee:= .builtin .len,args,argTypes:=ts})(ha:args.toList=[x])(_ht:ts.toList.head?=some t)
  (hl: ∀ty,(Builtin.len_ ts ty #[a.eval x]).run P w= .ok (goInt n) w):(execOp a.eval o).run P w= .ok (.value (.int .i64 n)) w:=by
 obtain⟨cs,hr⟩:=nC (P:=P) (ρ:=a.eval) ho (w:=w)
 rw[hr]
 have:args.map a.eval= #[a.eval x]:=by apply Array.ext';simp[ha]
 rw[this]
 simp[builtin,hl,goInt]
theorem TF{ts:Array TypeId}{t ty:TypeId}(ht:ts[0]? =some t)(hu:P.underlying t=some .string)(s:ByteArray):(Builtin.len_ ts ty #[.string s]).run P w= .ok (goInt s.size) w:=by
 simp[Builtin.len_,ht,run_underlying hu]
theorem TG{ts:Array TypeId}{t ty e:TypeId}{n:Nat}(ht:ts[0]? =some t)(hu:P.underlying t=some (.array n e))(v:Value):(Builtin.len_ ts ty #[v]).run P w= .ok (goInt n) w:=by
 simp[Builtin.len_,ht,run_underlying hu]
theorem sL{ts:Array TypeId}{t ty e:TypeId}(ht:ts[0]? =some t)(hu:P.underlying t=some (.slice e))(ad:Option Addr)(n cp:Nat):(Builtin.len_ ts ty #[.slice ad n cp]).run P w= .ok (goInt n) w:=by
 simp[Builtin.len_,ht,run_underlying hu]
theorem ER.PQ{e:Ty}{l:List e.den}{v:Value}(h:ER w M v (.own e l)): ∃ad cp,v= .slice ad l.length cp:=by
 simp only[ER]at h
 rcases h with⟨rfl,a,hv⟩|⟨b,cs,t,cap,hv,_⟩
 ·exact⟨a,0,hv⟩
 ·exact⟨_,cap,hv⟩
theorem ER.PS{e:Ty}{l:List e.den}{v:Value}(h:ER w M v (.lj e l)): ∃ad cp,v= .slice ad l.length cp:=by
 simp only[ER]at h
 have h:=h.1
 simp only[Rd,List.cons.injEq,and_true]at h
 obtain⟨a,cap,hv,_⟩:=h
 exact⟨a,cap,hv⟩
theorem abj(hE:EnvTy P E)(hc:Core c σ a.tmps w M ν){args:Array Operand}{ts:Array TypeId}{x:Operand}(ho:o.op= .call {callee:= .builtin .len,args,argTypes:=ts})(ha:args.toList=[x]){K:fL α}{τ:Ty}
  (ht:(ts.toList.head?).bind E.ty=some τ) (h:Gc τ (σ.ρ x) σ.H K=some r) (hn:eb c σ a o w M ν K r next):o.wp P a w next Q:=by
 obtain⟨t,rp,S2⟩:=Option.bind_eq_some_iff.1 ht
 have TH:ts[0]? =some t:=by rw[←rp,←Array.getElem?_toList,List.head?_eq_getElem?]
 have hl:=hE.ty t τ S2
 have hv:=hc.ev x
 unfold Gc at h
 split at h
 ·rename_i e e' l hx
  obtain⟨_,hu,_⟩:=hl.slice
  rw[hx]at hv
  simp only[VR]at hv
  have hv:=V.slice.1 hv
  simp only[Rd,List.cons.injEq,and_true]at hv
  obtain⟨ad,cap,hv,_⟩:=hv
  refine aM (kS ho ha rp (n:=List.length l) fun ty=>by rw[hv];exact sL TH hu _ _ _) (hn _ [] [] _ _ _ _ h (.refl hc.mem) (.mkInt _ _))
 ·rename_i n e n' e' l hx
  obtain⟨_,hu,_⟩:=hl.arr
  refine aM (kS ho ha rp (n:=n) fun ty=>TG TH hu _) (hn _ [] [] _ _ _ _ h (.refl hc.mem) (.mkInt _ _))
 ·rename_i s hx
  rw[hx]at hv
  refine aM (kS ho ha rp (n:=ByteArray.size s) fun ty=>by rw[hv.str];exact TF TH hl.str _) (hn _ [] [] _ _ _ _ h (.refl hc.mem) (.mkInt _ _))
 ·rename_i e hx
  obtain⟨_,hu,_⟩:=hl.slice
  rw[hx]at hv
  simp only[VR]at hv
  obtain⟨ad,hv⟩:=hv
  refine aM (kS ho ha rp (n:=0) fun ty=>by rw[hv];exact sL TH hu _ _ _) (hn _ [] [] _ _ _ _ h (.refl hc.mem) (.mkInt _ _))
 ·rename_i e id hx
  obtain⟨_,hu,_⟩:=hl.slice
  rw[hx]at hv
  simp only[VR]at hv
  split at h
  ·rename_i e' l aU
   obtain⟨ad,cap,hh⟩:=(hc.mem.jk id _ aU).PQ
   refine aM (kS ho ha rp (n:=l.length) fun ty=>by rw[hv.2,hh];exact sL TH hu _ _ _) (hn _ [id] [] _ _ _ _ h (.refl hc.mem) (.mkInt _ _))
  ·rename_i e' l aU
   obtain⟨ad,cap,hh⟩:=(hc.mem.jk id _ aU).PS
   refine aM (kS ho ha rp (n:=l.length) fun ty=>by rw[hv.2,hh];exact sL TH hu _ _ _) (hn _ [id] [] _ _ _ _ h (.refl hc.mem) (.mkInt _ _))
  ·cases h
 ·cases h
theorem Gw{H:Nat→Option aR}(up:Bool): ∀(xs:List a7) (x:a7) (v:Value) (vs:List Value) (K:a7→Option α),VR w M H ν x v→fT w M H ν xs vs→SY up x xs K=some r→
  ∃x' v',K x'=some r∧(vs.foldlM (if up then Builtin.max2 else Builtin.min2) v).run P w= .ok v' w∧VR w M H ν x' v'
 |[],x,v,[],K,hx,_,h=>⟨x,v,h,by simp,hx⟩
 |[],_,_,_::_,_,_,hs,_=>by simp[fT]at hs
 |_::_,_,_,[],_,_,hs,_=>by simp[fT]at hs
 |y::xs,x,v,u::vs,K,hx,hs,h=>by
  simp only[fT]at hs
  obtain⟨hy,hs⟩:=hs
  unfold SY at h
  obtain⟨k,m,e1,h1⟩:=jV h
  obtain⟨k',n,e2,h2⟩:=jV h1
  clear h h1
  split at h2
  ·rename_i hk
   subst hk
   rw[e1]at hx;rw[e2]at hy
   have hx:=hx.int
   have hy:=hy.int
   obtain⟨x',v',hK,cO,hV⟩:=Gw up xs _ (.int k (cond up (mx m n) (mn m n))) vs K (.mkInt _ _) hs h2
   refine⟨x',v',hK,?_,hV⟩
   rw[List.foldlM_cons,Sem.run_bind]
   have:((if up then Builtin.max2 else Builtin.min2) v u).run P w= .ok (.int k (cond up (mx m n) (mn m n))) w:=by
    rw[hx,hy]
    cases up
    ·simp[Builtin.min2,ZQ]
    ·simp[Builtin.max2,agu]
   rw[this]
   exact cO
  ·cases h2
theorem ZW(hc:Core c σ a.tmps w M ν)(up:Bool){args:Array Operand}{ts:Array TypeId}{x:Operand}{xs:List Operand}(ho:o.op= .call {callee:= .builtin (if up then .max else .min),args,argTypes:=ts})(ha:args.toList=x::xs){K:fL α}
  (h:SY up (σ.ρ x) (xs.map σ.ρ) (fun v=>K v [] [])=some r) (hn:eb c σ a o w M ν K r next):o.wp P a w next Q:=by
 obtain⟨x',v',hK,cO,hV⟩:=Gw (P:=P) up (xs.map σ.ρ) (σ.ρ x) (a.eval x) (xs.map a.eval) _ (hc.ev x) (hc.evs xs) h
 refine aM ?_ (hn _ [] [] _ _ _ _ hK (.refl hc.mem) hV)
 obtain⟨cs,hr⟩:=nC (P:=P) (ρ:=a.eval) ho (w:=w)
 rw[hr]
 have hm:(args.map a.eval).toList=a.eval x::xs.map a.eval:=by simp[ha]
 cases up
 ·simp only[Bool.false_eq_true,if_false,builtin,Builtin.min_,hm,Sem.run_bind]at cO ⊢
  rw[cO];simp
 ·simp only[if_true,builtin,Builtin.max_,hm,Sem.run_bind]at cO ⊢
  rw[cO];simp
theorem B9{ρ:Operand→Value}{t:TypeId}{x i:Operand}(ho:o.op= .index t x i){k:IntKind}{n:Int}{s:ByteArray}
  (hu:P.underlying t=some .string) (hx:ρ x= .string s) (hi:ρ i= .int k n) (h0:0≤n) (h1:n<(s.size:Int)):
  (execOp ρ o).run P w= .ok (.value (.int .u8 ((s.data.getD n.toNat 0).toNat:Int))) w:=by
 have dD:n.toNat<s.size:=by omega
 have hs:s[n.toNat]? =some (s[n.toNat]'dD):=by simp[dD]
 have he:s[n.toNat]'dD=s.data.getD n.toNat 0:=by
  have rO:n.toNat<s.data.size:=dD
  rw[Array.getD,dif_pos rO];rfl
 simp[execOp,ho,hx,hi,Instr.index,asIntOf,run_underlying hu,h0,hs,he]
theorem PT(hE:EnvTy P E)(hc:Core c σ a.tmps w M ν){t:TypeId}{x i:Operand}(ho:o.op= .index t x i){K:fL α}{τ:Ty}(ht:E.ty t=some τ)
  (h:rG τ (σ.ρ x) (σ.ρ i) (fun v=>K v [] [])=some r) (hn:eb c σ a o w M ν K r next):o.wp P a w next Q:=by
 unfold rG at h
 obtain⟨k,n,hi,h2⟩:=jV h
 clear h
 have h:=h2
 clear h2
 have Mj:=hc.ev i
 rw[hi]at Mj
 have Mj:=Mj.int
 have hv:=hc.ev x
 have u5:=hE.ty t τ ht
 split at h
 ·rename_i len e υ l hx
  obtain⟨e',JR,hle⟩:=u5.arr
  obtain⟨e1,h⟩:=ba h
  subst e1
  obtain⟨gC,h⟩:=bM h
  obtain⟨h0,h1⟩:=p8 gC
  rw[hx]at hv
  simp only[VR]at hv
  obtain⟨cs,hu,hr⟩:=hv.agg rfl
  have dw:=hr.idx (i:=n.toNat) (by omega)
  refine aM (B5 ho JR hle hu Mj h0 h1 dw) (hn _ [] [] _ _ _ _ h (.refl hc.mem) ?_)
  simp only[VR]
  exact V.bT dw
 ·rename_i s hx
  obtain⟨gC,h⟩:=bM h
  obtain⟨h0,h1⟩:=p8 gC
  rw[hx]at hv
  refine aM (B9 ho u5.str hv.str Mj h0 h1) (hn _ [] [] _ _ _ _ h (.refl hc.mem) (.mkInt _ _))
 ·cases h
theorem lq(τ:Ty):τ.cr.length=τ.size:=(Rd.zero default (fun _=>False) τ).length
theorem yJ{z:Array Value}{n i s:Nat}(hz:z.size=s)(hi:i*s+s≤n):((madeCells z n).toList.drop (i*s)).take s=z.toList:=by
 apply List.ext_getElem?
 intro j
 rw[List.getElem?_take]
 split
 ·rename_i hj
  rw[List.getElem?_drop,Array.getElem?_toList,Array.getElem?_toList]
  simp only[madeCells,Array.getElem?_map]
  rw[Array.getElem?_range,if_pos (by omega)]
  simp only[Option.map_some]
  have:(i*s+j)%z.size=j:=by rw[hz,Nat.mul_comm,Nat.mul_add_mod,Nat.mod_eq_of_lt hj]
  rw[this,Array.getElem?_eq_getElem (by omega),getElem!_pos z j (by omega)]
 ·rename_i hj
  rw[Array.getElem?_toList,Array.getElem?_eq_none (by omega)]
theorem nD.made(w:World)(M:Nat→Prop)(e:Ty){n l:Nat}(h:l*e.size≤n):nD w M e (madeCells (bT e e.cr).cells n).toList (List.replicate l e.zero):=by
 intro i hi
 rw[List.length_replicate]at hi
 have:=c4 (s:=e.size) hi
 rw[yJ (by rw[←Array.length_toList,eR,lq]) (by omega),eR,List.getElem_replicate]
 exact Rd.zero w M e
theorem wJ{ρ:Operand→Value}{t:TypeId}{x y:Operand}(ho:o.op= .makeSlice t x y){v:Value}{w':World}(h:(Instr.makeSlice t (ρ x) (ρ y)).run P w= .ok v w'):(execOp ρ o).run P w= .ok (.value v) w':=by
 simp[execOp,ho,h]
theorem Eo(hE:EnvTy P E)(hc:Core c σ a.tmps w M ν){t:TypeId}{x y:Operand}(ho:o.op= .makeSlice t x y){K:fL α}{e:Ty}(ht:E.ty t=some (.slice e)){id:Nat}
  (h:rC (σ.ρ x) (fun _ l=>rC (σ.ρ y) fun _ c=>cond (ga l c)
   (nx σ.H id (.own e []) (K (.ref id) [id] [(id,some (.own e (List.replicate l.toNat e.zero)))])) none)=some r) (hn:eb c σ a o w M ν K r next):o.wp P a w next Q:=by
 obtain⟨k,l,hx,h1⟩:=jV h
 obtain⟨k',n,hy,h2⟩:=jV h1
 clear h h1
 obtain⟨hk,h⟩:=bM h2
 obtain⟨aU,h⟩:=iB h
 rw[CH]at hk
 obtain⟨h0,h1,h3⟩:=of_decide_eq_true hk
 simp only[uM]at h3
 obtain⟨e',hu,hle⟩:=(hE.ty t _ ht).slice
 obtain⟨i,hi,hs,hz,hb⟩:=hle.base
 have Ep:=hc.ev x
 have yH:=hc.ev y
 rw[hx]at Ep;rw[hy]at yH
 have abk:(i.bytes:Int)*n≤281474976710656:=by
  have h4:(i.bytes:Int)≤2048:=by omega
  have:(i.bytes:Int)*n≤2048*n:=Int.mul_le_mul_of_nonneg_right h4 (by omega)
  omega
 have cO:=run_make (P:=P) w t e' i _ hu hi hz k k' l n h0 h1 abk (by omega)
 have hlen:(List.replicate l.toNat e.zero).length=l.toNat:=List.length_replicate
 have fb:=Tr.row hc.mem aU e' (e:=e) (cs:=madeCells (bT e e.cr).cells (n.toNat*i.size)) (l:=List.replicate l.toNat e.zero) (cap:=n.toNat) (by rw[hlen];omega) (by simp[maxLen];omega)
  (by rw[size_madeCells,hs]) (nD.made w M e (Nat.mul_le_mul (by omega) (by omega)))
 refine aM (wJ ho (by rw[Ep.int,yH.int];exact cO)) (hn _ _ _ _ _ _ _ h fb ?_)
 simp only[VR]
 exact⟨by show bu σ.H id _ id≠none;rw[ak];simp,by simp[cB]⟩
end VM
end
