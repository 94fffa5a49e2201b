/- A part of the proof of AwardDrawn of layer 25: a machine that reads a function of the program as an equation between values. -/
import Derived.Test.YtocmlaipoebfeaaGreatVm1
set_option linter.all false
section
namespace VM
open Go
variable{P:Program}{E:Env}{o:Oper}{a:Act}{w:World}{M:Nat→Prop}{ν:Nat→Value}{σ:St}{c:Ctx}{α:Type}{r:α}{next:Act→World→Prop}{Q:Exit→Act→World→Prop}
theorem aO{v:Value}{w':World}(h:(execOp a.eval o).run P w= .ok (.value v) w')(hn:next (a.put o.dst v) w'):o.wp P a w next Q:=by
 unfold Oper.wp Oper.upon;rw[h];exact hn
theorem mB{w':World}(h:(execOp a.eval o).run P w= .ok .skip w')(hn:next (a.put o.dst undef) w'):o.wp P a w next Q:=by
 unfold Oper.wp Oper.upon;rw[h];exact hn
def dL(c:Ctx)(σ:St)(a:Act)(o:Oper)(w:World)(M:Nat→Prop)(ν:Nat→Value)(K:fh α)(r:α)(next:Act→World→Prop):Prop:=
 ∀v rd ups v' w' M' ν',K v rd ups=some r→Tr c σ.H w M ν (bS σ.H ups) w' M' ν'→VR w' M' (bS σ.H ups) ν' v v'→next (a.put o.dst v') w'
theorem Core.ev(h:Core c σ a.tmps w M ν)(x:Operand):VR w M σ.H ν (σ.ρ x) (a.eval x):=h.op a.defers x
theorem iW{x:aX}{k:IntKind→Int→Option α}(h:qi x k=some r): ∃(i:IntKind) (n:Int),x= .val (.int i) n∧k i n=some r:=by
 unfold qi at h
 split at h
 ·exact⟨_,_,rfl,h⟩
 ·cases h
theorem VR.int{H:Nat→Option aQ}{k:IntKind}{n:Int}{v:Value}(h:VR w M H ν (.val (.int k) n) v):v= .int k n:=by
 simp only[VR,V,Ty.isAgg,Bool.false_eq_true,if_false,Rd,List.cons.injEq,and_true]at h;exact h
theorem VR.bool{H:Nat→Option aQ}{b:Bool}{v:Value}(h:VR w M H ν (.val .bool b) v):v= .bool b:=by
 simp only[VR,V,Ty.isAgg,Bool.false_eq_true,if_false,Rd,List.cons.injEq,and_true]at h;exact h
theorem VR.str{H:Nat→Option aQ}{b:ByteArray}{v:Value}(h:VR w M H ν (.val .str b) v):v= .string b:=by
 simp only[VR,V,Ty.isAgg,Bool.false_eq_true,if_false,Rd,List.cons.injEq,and_true]at h;exact h
theorem VR.mkInt{H:Nat→Option aQ}(k:IntKind)(n:Int):VR w M H ν (.val (.int k) n) (.int k n):=by simp[VR,V,Ty.isAgg,Rd]
theorem VR.oZ{H:Nat→Option aQ}(b:Bool):VR w M H ν (.val .bool b) (.bool b):=by simp[VR,V,Ty.isAgg,Rd]
theorem VR.mkStr{H:Nat→Option aQ}(b:ByteArray):VR w M H ν (.val .str b) (.string b):=by simp[VR,V,Ty.isAgg,Rd]
theorem I1(hc:Core c σ a.tmps w M ν){x:Operand}(ho:o.op= .move x∨o.op= .assign x){K:fh α}(h:K (σ.ρ x) [] []=some r)(hn:dL c σ a o w M ν K r next):o.wp P a w next Q:=by
 have hr:(execOp a.eval o).run P w= .ok (.value (a.eval x)) w:=by
  rcases ho with ho|ho
  ·simp[execOp,ho]
  ·simp[execOp,ho]
 exact aO hr (hn _ _ _ _ _ _ _ h (.refl hc.mem) (hc.ev x))
theorem Qa(hc:Core c σ a.tmps w M ν){x y z:Operand}(ho:o.op= .pick x y z){K:fh α}{t:Bool}(hx:σ.ρ x= .val .bool t)(h:cond t (K (σ.ρ y) [] []) (K (σ.ρ z) [] [])=some r)
  (hn:dL c σ a o w M ν K r next):o.wp P a w next Q:=by
 have hv:=hc.ev x
 rw[hx]at hv
 refine aO (Dz ho hv.bool) ?_
 cases t
 ·exact hn _ _ _ _ _ _ _ h (.refl hc.mem) (hc.ev z)
 ·exact hn _ _ _ _ _ _ _ h (.refl hc.mem) (hc.ev y)
theorem gR{H:Nat→Option aQ}{id:Nat}{e:aQ}{K:Option α}(h:mu H id e K=some r):H id=none∧K=some r:=by
 unfold mu at h
 split at h
 ·rename_i h';exact⟨h',h⟩
 ·cases h
theorem VR.Wf{H:Nat→Option aQ}{id:Nat}{τ:Ty}{x:τ.den}{b:Nat}(aR:H id=some (.obj τ x))(hν:ν id= .pointer (some ⟨b,0,none⟩)):VR w M H ν (.fc id []) (.pointer (some ⟨b,0,none⟩)):=by
 simp only[VR]
 exact⟨_,aR,trivial,b,hν,rfl⟩
theorem VR.Mq{H:Nat→Option aQ}{id:Nat}{τ:Ty}{x:τ.den}{q:List Step}{j b:Nat}(aR:H id=some (.dN τ x q j))(hν:ν id= .pointer (some ⟨b,0,none⟩)):VR w M H ν (.fc id []) (.pointer (some ⟨b,0,none⟩)):=by
 simp only[VR]
 exact⟨_,aR,trivial,b,hν,rfl⟩
theorem ew(τ:Ty):(bE τ τ.b7).cells.toList=τ.b7:=zS (Rd.zero default (fun _=>False) τ)
theorem DA: ∀{τ:Ty} {n:Nat} {a:Ty},BG τ n=some a→ ∃l m,τ.b7=l++(a.b7++m)∧l.length=nq τ n:=by
 intro τ
 induction τ with
 |pair a b _ Mp=>
  intro n c h
  cases n with
  |zero=>cases h;exact⟨[],b.b7,rfl,rfl⟩
  |succ n=>
   obtain⟨l,m,h1,h2⟩:=Mp (n:=n) (a:=c) h
   refine⟨a.b7++l,m,by simp only[Ty.b7];rw[h1,List.append_assoc],?_⟩
   rw[List.length_append,h2,(Rd.zero default (fun _=>False) a).length];rfl
 |_=>intro n c h;simp[BG]at h
theorem tB: ∀{p:List Step} {τ υ:Ty},eo p τ υ=true→ ∃l m,τ.b7=l++(υ.b7++m)∧l.length=bB p τ
 |[],τ,υ,h=>by
  have h:=of_decide_eq_true h
  subst h
  exact⟨[],[],by simp,rfl⟩
 | .gk n::p,τ,υ,h=>by
  unfold eo at h
  split at h
  ·rename_i a ha
   obtain⟨l,m,h1,h2⟩:=DA ha
   obtain⟨l',m',h3,h4⟩:=tB h
   obtain⟨_,_,hf⟩:=oz ha τ.zero
   have:=hf.eq.1
   subst this
   refine⟨l++l',m'++m,by rw[h1,h3];simp,?_⟩
   rw[List.length_append,h2,h4];rfl
  ·cases h
 | .idx _::_,_,_,h=>by simp[eo]at h
theorem AA{p:List Step}{τ e:Ty}(h:eo p τ (.slice e)=true):τ.b7[bB p τ]? =some (.slice none 0 0):=by
 obtain⟨l,m,h1,h2⟩:=tB h
 rw[h1,List.getElem?_append_right (by omega),h2,Nat.sub_self];rfl
theorem bA{b:Bool}{K:Option α}(h:cond b K none=some r):b=true∧K=some r:=by
 cases b
 ·cases h
 ·exact⟨rfl,h⟩
theorem I2{τ:Ty}{q:List Step}{e:Ty}(h:lkT E τ=some (q,e)):eo q τ (.slice e)=true:=by
 unfold lkT at h
 split at h
 ·rename_i υ q' e' _ _
  cases hd:decide (υ=τ)<;>rw[hd]at h
  ·cases h
  ·simp only[cond_true]at h
   cases hp:eo q' τ (.slice e')<;>rw[hp]at h
   ·cases h
   ·cases h;exact hp
 ·cases h
theorem oG{τ:Ty}{id:Nat}{q:List Step}{e:Ty}(h:BI E τ id=some (q,e)):eo q τ (.slice e)=true:=by
 unfold BI at h
 split at h
 ·exact I2 (bA h).2
 ·cases h
theorem xV{H:Nat→Option aQ}{id:Nat}{τ:Ty}{x:τ.den}{q:List Step}{e:Ty}{K:fh α}(h:wK H id τ x q e K=some r):H id=none∧H (id+1)=none∧K (.fc id []) [id,id+1] [(id,some (.dN τ x q (id+1))),(id+1,some (.own e []))]=some r:=by
 unfold wK at h
 obtain⟨h1,h⟩:=gR h
 obtain⟨h2,h⟩:=gR h
 exact⟨h1,h2,h⟩
theorem Kf{H:Nat→Option aQ}{i j:Nat}{u v:Option aQ}(h:i≠j):bn (bn H i u) j v=bn (bn H j v) i u:=by
 funext k
 by_cases hi:k=i
 ·subst hi;rw[al _ _ h,ak,ak]
 ·by_cases hj:k=j
  ·subst hj;rw[ak,al _ _ hi,ak]
  ·rw[al _ _ hj,al _ _ hi,al _ _ hi,al _ _ hj]
theorem sx{H:Nat→Option aQ}{i:Nat}{u v:Option aQ}:bn (bn H i u) i v=bn H i v:=by
 funext k
 by_cases hi:k=i
 ·subst hi;rw[ak,ak]
 ·rw[al _ _ hi,al _ _ hi,al _ _ hi]
theorem Tr.Mr{H:Nat→Option aQ}(h:Mem c H w M ν){id k:Nat}(hk:H k=none){τ:Ty}{x:τ.den}(aR:H id=some (.obj τ x)){b:Nat}{cs:Array Value}{t:TypeId}(hb:ν id= .pointer (some ⟨b,0,none⟩))(hg:w.heap[b]? =some (.cells cs t (0,0)))
  {q:List Step} {e:Ty} (hq:eo q τ (.slice e)=true) {ad:Option Addr} (hz:cs.toList[bB q τ]? =some (.slice ad 0 0)):
  Tr c H w M ν (bS H [(id,some (.dN τ x q k)),(k,some (.own e []))]) w M (ch ν k (.slice ad 0 0)):=by
 have gH:k≠id:=fun e=>by rw[e,aR]at hk;cases hk
 have h2:=Tr.nothing h hk e ad
 have hd2:bn H k (some (.own e [])) id=some (.obj τ x):=by rw[al _ _ (Ne.symm gH)];exact aR
 have hν:ch ν k (.slice ad 0 0) id= .pointer (some ⟨b,0,none⟩):=by unfold ch;rw[if_neg (Ne.symm gH)];exact hb
 have hν1:ch ν k (.slice ad 0 0) k= .slice ad 0 0:=by simp[ch]
 have he:=h2.mem.ix id _ hd2
 simp only[ER]at he
 obtain⟨b',cs',t',dv,hg',hM,gG⟩:=he
 rw[hν]at dv;cases dv
 rw[hg]at hg';cases hg'
 have h3:=Tr.Kc h2.mem hd2 trivial (e':= .dN τ x q k) trivial rfl (fun _ _=>by simp) (by
   rw[hν];simp only[ER]
   exact⟨_,cs,t,cs.toList,.slice ad 0 0,rfl,hg,hM,gG,(Du hz).symm,rfl,e,hq⟩)
  (fun τ' x' p' j' hl=>by
   cases hl
   refine⟨by rw[ak];simp,_,hν,?_⟩
   rw[hν1,cell_of hg,←Array.getElem?_toList];exact hz)
 rw[Kf (i:=k) (j:=id) gH]at h3
 exact h2.trans h3
theorem Tr.wK{H:Nat→Option aQ}(h:Mem c H w M ν){id:Nat}(aR:H id=none)(kY:H (id+1)=none)(t:TypeId){τ:Ty}{cs:Array Value}{x:τ.den}(hr:Rd w M τ cs.toList x){q:List Step}{e:Ty}(hq:eo q τ (.slice e)=true){ad:Option Addr}
  (hz:cs.toList[bB q τ]? =some (.slice ad 0 0)):
  ∃M' ν',Tr c H w M ν (bS H [(id,some (.dN τ x q (id+1))),(id+1,some (.own e []))]) (w.alloc (.cells cs t)) M' ν'∧ν' id= .pointer (some ⟨w.heap.size,0,none⟩):=by
 have h1:=Tr.var h aR t hr
 have h2:=Tr.Mr h1.mem (id:=id) (k:=id+1) (by rw[al _ _ (by omega)];exact kY) (ak _ _ _) (by simp[ch]) (xR w _) hq hz
 have e1:bS (bn H id (some (.obj τ x))) [(id,some (.dN τ x q (id+1))),(id+1,some (.own e []))]=bS H [(id,some (.dN τ x q (id+1))),(id+1,some (.own e []))]:=by
  show bn (bn (bn H id _) id _) (id+1) _=bn (bn H id _) (id+1) _
  rw[sx]
 rw[e1]at h2
 exact⟨_,_,h1.trans h2,by simp[ch]⟩
theorem Ms(hE:EnvTy P E)(hc:Core c σ a.tmps w M ν){t:TypeId}(ho:o.op= .alloc t){K:fh α}{τ:Ty}(ht:E.ty t=some τ){id:Nat}
  (h:(match BI E τ id with
   |some (q,e)=>wK σ.H id τ τ.zero q e K
   |none=>mu σ.H id (.obj τ τ.zero) (K (.fc id []) [id] [(id,some (.obj τ τ.zero))]))=some r) (hn:dL c σ a o w M ν K r next):o.wp P a w next Q:=by
 obtain⟨i,hi,hs,hz,_⟩:=(hE.ty t τ ht).base
 have hr:Rd w M τ (bE τ τ.b7).cells.toList τ.zero:=by rw[ew];exact Rd.zero w M τ
 split at h
 ·rename_i q e oC
  obtain⟨aR,kY,h⟩:=xV h
  obtain⟨M',ν',eH,hν⟩:=Tr.wK hc.mem aR kY t hr (oG oC) (by rw[ew];exact AA (oG oC))
  refine aO (tz ho hi hz w) (hn _ _ _ _ _ M' ν' h eH ?_)
  exact VR.Mq (by show bn _ (id+1) _ id=_;rw[al _ _ (by omega),ak]) hν
 ·obtain⟨aR,h⟩:=gR h
  refine aO (tz ho hi hz w) (hn _ _ _ _ _ _ _ h (Tr.var hc.mem aR t hr) (VR.Wf (ak _ _ _) (by simp[ch])))
theorem I3(hE:EnvTy P E)(hc:Core c σ a.tmps w M ν){t:TypeId}{x:Operand}(ho:o.op= .box t x){K:fh α}{τ:Ty}{id:Nat}
  (h:hQ true (σ.ρ x) σ.H τ (fun y rd ups=>mu σ.H id (.obj τ y) (K (.fc id []) (id::rd) (ups++[(id,some (.obj τ y))])))=some r) (hn:dL c σ a o w M ν K r next):o.wp P a w next Q:=by
 obtain⟨y,rd,ups,M',h,eH,hV,hz,_⟩:=jD (.refl _) hc.mem (hc.ev x) h
 obtain⟨aR,h⟩:=gR h
 have Xt:bS σ.H ups id=none:=hz.none aR
 have qq:=eH.trans (Tr.var eH.mem Xt t hV.cells)
 refine aO (xS ho w) (hn _ _ _ _ _ (fun b=>M' b∨b=w.heap.size) (ch ν id (.pointer (some ⟨w.heap.size,0,none⟩))) h ?_ ?_)
 ·rw[dU];exact qq
 ·rw[dU];exact VR.Wf (ak _ _ _) (by simp[ch])
theorem Xu(hE:EnvTy P E)(hc:Core c σ a.tmps w M ν){t:TypeId}{x:Operand}(ho:o.op= .box t x){K:fh α}{τ:Ty}{id:Nat}
  (h:(match BI E τ id,σ.ρ x with
   |some ([.gk m],e),.BH υ y n=>cond (Nat.beq m n) (bX υ τ y fun y=>wK σ.H id τ y [.gk m] e K) (hQ true (σ.ρ x) σ.H τ (fun y rd ups=>mu σ.H id (.obj τ y) (K (.fc id []) (id::rd) (ups++[(id,some (.obj τ y))]))))
   |_,_=>hQ true (σ.ρ x) σ.H τ (fun y rd ups=>mu σ.H id (.obj τ y) (K (.fc id []) (id::rd) (ups++[(id,some (.obj τ y))]))))=some r) (hn:dL c σ a o w M ν K r next):o.wp P a w next Q:=by
 split at h
 ·rename_i m e υ y n oC hx
  cases hb:Nat.beq m n
  ·rw[hb]at h
   exact I3 hE hc ho h hn
  ·rw[hb]at h
   have xW:=Nat.eq_of_beq_eq_true hb
   subst xW
   simp only[cond_true]at h
   obtain⟨e1,h⟩:=a7 h
   subst e1
   obtain⟨aR,kY,h⟩:=xV h
   have hv:=hc.ev x
   rw[hx]at hv
   simp only[VR]at hv
   obtain⟨hV,cs,ad,hva,hz⟩:=hv
   have BQ:(a.eval x).cells.toList=cs.toList:=by rw[hva];rfl
   obtain⟨M',ν',eH,hν⟩:=Tr.wK hc.mem aR kY t hV.cells (oG oC) (ad:=ad) (by rw[BQ];simpa [bB]using hz)
   refine aO (xS ho w) (hn _ _ _ _ _ M' ν' h eH ?_)
   exact VR.Mq (by show bn _ (id+1) _ id=_;rw[al _ _ (by omega),ak]) hν
 ·exact I3 hE hc ho h hn
theorem o0{i:Int}{n:Nat}(h:aN i n=true):0≤i∧i<(n:Int):=by rw[Ml]at h;simpa using h
theorem iy{b:Bool}{K:Option α}(h:cond b none K=some r):b=false∧K=some r:=by
 cases b
 ·exact⟨rfl,h⟩
 ·cases h
theorem vN(hm:Mem c σ.H w M ν){x:aX}{u:Value}(hv:VR w M σ.H ν x u){K:(υ:Ty)→υ.den→List Nat→Option α}(h:gF x σ.H K=some r):
  ∃υ y rd,K υ y rd=some r∧ ∃b off cs,u= .pointer (some ⟨b,off,none⟩)∧At w b off cs∧Rd w M υ cs y:=by
 unfold gF at h
 split at h
 ·simp only[VR]at hv
  obtain⟨b,off,rfl,_,_,cs,ha,hr⟩:=hv
  exact⟨_,_,_,h,b,off,cs,rfl,ha,hr⟩
 ·rename_i id p
  simp only[VR]at hv
  obtain⟨e,he,js⟩:=hv
  have iK:=hm.ix id e he
  rw[he]at h
  cases e with
  |obj τ x=>
   obtain⟨υ,y,o',hp,hK⟩:=fT h
   simp only[AR]at js
   obtain⟨hi,b,hb,rfl⟩:=js
   simp only[ER]at iK
   obtain⟨b',cs,t,dv,hg,_,hr⟩:=iK
   rw[hb]at dv;cases dv
   have:=hp.eq.2
   subst this
   exact⟨υ,y,_,hK,b,_,_,rfl,At.of_block hg _ _,hp.rd hi hr⟩
  |own e l=>
   simp only[AR]at js
   obtain⟨i,q,rfl,zW,hi,b,n,cp,hb,rfl⟩:=js
   obtain⟨υ,y,o',hp,hK⟩:=fT h
   simp only[ER]at iK
   rcases iK with⟨rfl,_⟩|⟨b',cs,t,cap,dv,hg,_,Ma,hl,Ay,hs,hr⟩
   ·simp at zW
   ·rw[hb]at dv;cases dv
    have:=hp.eq.2
    subst this
    have h1:=hr i zW
    rw[←gm l i e.zero zW]at h1
    have h2:=hp.rd hi h1
    have h3:=hp.bound hi
    rw[List.drop_take,List.drop_drop,List.take_take,Nat.min_eq_left (by omega)]at h2
    exact⟨υ,y,_,hK,b,_,_,rfl,At.of_block hg _ _,h2⟩
  |jW e l=>
   simp only[AR]at js
   obtain⟨i,q,rfl,zW,hi,b,n,cp,hb,rfl⟩:=js
   obtain⟨υ,y,o',hp,hK⟩:=fT h
   simp only[ER]at iK
   have gG:=iK.1
   simp only[Rd,List.cons.injEq,and_true]at gG
   obtain⟨a0,cap,ha0,_,hr⟩:=gG
   obtain⟨b',off,rfl,_,_,cs,lH,PH⟩:=hr i zW
   rw[hb]at ha0;cases ha0
   have:=hp.eq.2
   subst this
   rw[Nat.zero_add]at lH
   have aco:Rd w M e cs (List.getD l i e.zero):=by rw[gm l i e.zero zW];exact PH
   have h2:=hp.rd hi aco
   have h3:=hp.bound hi
   have P9:=aco.length
   refine⟨υ,y,_,hK,b,_,_,rfl,?_,h2⟩
   intro j v hj
   rw[List.getElem?_take]at hj
   split at hj
   ·rw[List.getElem?_drop]at hj
    have:=lH _ v hj
    rwa [←Nat.add_assoc]at this
   ·cases hj
  |dN _ _ _ _=>cases h
  |gone=>cases h
 ·cases h
theorem Mem.linked{H:Nat→Option aQ}(hm:Mem c H w M ν){id:Nat}{τ:Ty}{x:τ.den}{q:List Step}{j:Nat}(aR:H id=some (.dN τ x q j)):
  ∃b cs t nG e,ν id= .pointer (some ⟨b,0,none⟩)∧w.heap[b]? =some (.cells cs t (0,0))∧M b∧Rd w M τ nG x∧cs.toList=dd nG (bB q τ) [ν j]∧(ν j).oneCell'=true∧eo q τ (.slice e)=true∧bB q τ<nG.length∧H j≠none:=by
 have iK:=hm.ix id _ aR
 simp only[ER]at iK
 obtain⟨b,cs,t,nG,u,hb,hg,hM,hr,BQ,h1,e,hq⟩:=iK
 obtain⟨hj,b',dv,I4⟩:=hm.dN id _ _ _ _ aR
 rw[hb]at dv;cases dv
 obtain⟨y,o,hp⟩:=oA hq x
 have dE:bB q τ<nG.length:=by
  have:=hp.bound (gn hq).1
  have h2:=hp.eq.2
  have h3:=hr.length
  have:(Ty.slice e).size=1:=rfl
  omega
 have hu:u=ν j:=by
  rw[cell_of hg,←Array.getElem?_toList,BQ,xv dE]at I4
  exact Option.some.inj I4
 subst hu
 exact⟨b,cs,t,nG,e,hb,hg,hM,hr,BQ,h1,hq,dE,hj⟩
theorem sy{H:Nat→Option aQ}(hm:Mem c H w M ν){id:Nat}{τ:Ty}{x:τ.den}{q:List Step}{j:Nat}(aR:H id=some (.dN τ x q j)){k:τ.den→fg→Option α}(h:wJ j q τ x H k=some r):
  ∃z ups M',k z ups=some r∧Tr c H w M ν (bS H ups) w M' ν∧Fz H (bS H ups)∧((∃e l,H j=some (.jW e l)∧ups=[])∨ ∃e l,H j=some (.own e l)∧ups=[(j,some (.jW e l))])∧ ∃b cs t,ν id= .pointer (some ⟨b,0,none⟩)∧w.heap[b]? =some (.cells cs t (0,0))∧M' b∧Rd w M' τ cs.toList z:=by
 obtain⟨b,cs,t,nG,e0,hb,hg,hM,hr,BQ,h1,hq,dE,hj⟩:=hm.linked aR
 have Mt:=(gn hq).1
 unfold wJ at h
 split at h
 ·rename_i e l zP
  obtain⟨z,hz,zX,zO,rM⟩:=ki h
  obtain⟨M',eH,hV,hM'⟩:=Tr.freeze hm zP
  refine⟨z,_,M',hz,eH,fun i=> ?_,.inr ⟨e,l,zP,rfl⟩,b,cs,t,hb,hg,?_,?_⟩
  ·by_cases hi:i=j
   ·subst hi;exact .inr ⟨e,l,zP,ak _ _ _⟩
   ·exact .inl (al _ _ hi)
  ·refine(hM' b).2 ⟨hM,fun hjb=> ?_⟩
   have gH:j≠id:=fun e=>by rw[e,aR]at zP;cases zP
   exact hm.uU j id _ _ b gH zP trivial aR trivial hjb (by rw[hb];rfl)
  ·rw[BQ]
   exact rM w M' nG [ν j] Mt (hr.br eH.br) (V.slice.1 hV)
 ·rename_i e l zP
  obtain⟨z,hz,zX,zO,rM⟩:=ki h
  have iK:=hm.ix j _ zP
  simp only[ER]at iK
  refine⟨z,_,M,hz,.refl hm,.refl H,.inl ⟨e,l,zP,rfl⟩,b,cs,t,hb,hg,hM,?_⟩
  rw[BQ]
  exact rM w M nG [ν j] Mt hr iK.1
 ·cases h
theorem abG{τ υ:Ty}{t:TypeId}(hE:EnvTy P E)(ht:E.ty t=some τ)(h:eo ([]:List Step) υ τ=true):υ=τ:=of_decide_eq_true h
theorem Rd.Xv{e:Ty}{v:Value}{cs:List Value}{l:List e.den}(h:Rd w M (.slice e) cs l): ∃a n cap,cs=[.slice a n cap]:=by
 simp only[Rd]at h
 obtain⟨a,cap,rfl,_⟩:=h
 exact⟨a,_,cap,rfl⟩
theorem zY{ρ:Operand→Value}{t:TypeId}{x:Operand}(ho:o.op= .load t x){τ:Ty}(h:gl P τ t)(ha:τ.isAgg=false){b off:Nat}{v:Value}(hx:ρ x= .pointer (some ⟨b,off,none⟩))(hc:w.cell? ⟨b,off,none⟩=some v):
  (execOp ρ o).run P w= .ok (.value v) w:=by
 have:(loadVar t ⟨b,off,none⟩).run P w= .ok v w:=by
  simp[loadVar,oD h,ha,load,Sem.run,hc]
 simp[execOp,ho,hx,Instr.loadAt,Instr.sureAddr,this]
theorem DB(hE:EnvTy P E)(hc:Core c σ a.tmps w M ν){t:TypeId}{x:Operand}(ho:o.op= .load t x){K:fh α}{τ:Ty}(ht:E.ty t=some τ)
  (h:gF (σ.ρ x) σ.H (fun υ y rd=>bX υ τ y fun z=>K (.val τ z) rd [])=some r) (hn:dL c σ a o w M ν K r next):o.wp P a w next Q:=by
 obtain⟨υ,y,rd,h,b,off,cs,hu,lH,hr⟩:=vN hc.mem (hc.ev x) h
 obtain⟨e,h⟩:=a7 h
 subst e
 refine aO (qo ho (hE.ty t _ ht) hu lH hr) (hn _ _ _ _ _ _ _ h (.refl hc.mem) ?_)
 simp only[VR]
 exact V.bE hr
theorem Qb(hE:EnvTy P E)(hc:Core c σ a.tmps w M ν){t:TypeId}{x:Operand}(ho:o.op= .load t x){K:fh α}{τ:Ty}(ht:E.ty t=some τ)
  (h:pT τ (σ.ρ x) σ.H K=some r) (hn:dL c σ a o w M ν K r next):o.wp P a w next Q:=by
 unfold pT at h
 simp only at h
 split at h
 ·rename_i id p hx
  split at h
  ·rename_i υ z q j aR
   have hv:=hc.ev x
   rw[hx]at hv
   simp only[VR]at hv
   obtain⟨e1,He,js⟩:=hv
   rw[aR]at He;cases He
   simp only[AR]at js
   obtain⟨hi,b,hb,hu⟩:=js
   obtain⟨b',cs,te,nG,e0,dv,hg,hM,hr,BQ,h1,hq,dE,hj⟩:=hc.mem.linked aR
   rw[hb]at dv;cases dv
   cases hp:Di p q
   ·rw[hp]at h
    cases Dv:rI p q
    ·
     rw[Dv]at h
     simp only[cond_false]at h
     obtain⟨υ',y,o',rN,h⟩:=fT h
     obtain⟨e2,h⟩:=a7 h
     subst e2
     have hap:=rN.apart hi hq Dv
     have ho':=rN.eq.2
     subst ho'
     have zO:=rN.bound hi
     have hlen:=hr.length
     have gG:Rd w M υ' ((cs.toList.drop (bB p υ)).take υ'.size) y:=by
      rw[BQ,BN (by simp only[List.length_singleton];omega) (by simp only[List.length_singleton];omega)]
      exact rN.rd hi hr
     refine aO (qo ho (hE.ty t _ ht) hu (At.of_block hg _ _) gG) (hn _ _ _ _ _ M ν h (.refl hc.mem) ?_)
     simp only[VR]
     exact V.bE gG
    ·
     rw[Dv]at h
     simp only[cond_false,cond_true]at h
     obtain⟨z',ups,M',h,eH,_,_,b2,Xw,t2,sv,Mu,BR,C6⟩:=sy hc.mem aR h
     rw[hb]at sv;cases sv
     rw[hg]at Mu;cases Mu
     obtain⟨υ',y,o',rN,h⟩:=fT h
     obtain⟨e2,h⟩:=a7 h
     subst e2
     have ho':=rN.eq.2
     subst ho'
     have gG:=rN.rd hi C6
     refine aO (qo ho (hE.ty t _ ht) hu (At.of_block hg _ _) gG) (hn _ _ _ _ _ M' ν h eH ?_)
     simp only[VR]
     exact V.bE gG
   ·
    rw[hp]at h
    have:=uZ hp
    subst this
    simp only[cond_true]at h
    obtain⟨hpq,hK⟩:=bA h
    have hτ:τ= .slice e0:=(gn hpq).2.symm.trans (gn hq).2
    subst hτ
    have I4:w.cell? ⟨b,bB p υ,none⟩=some (ν j):=by rw[cell_of hg,←Array.getElem?_toList,BQ,xv dE]
    refine aO (zY ho (hE.ty t _ ht) rfl hu I4) (hn _ _ _ _ _ M ν hK (.refl hc.mem) ?_)
    simp only[VR]
    exact⟨hj,trivial⟩
  ·exact DB hE hc ho ht h hn
 ·exact DB hE hc ho ht h hn
end VM
end
section
namespace VM
open Go
variable{P:Program}{E:Env}{o:Oper}{a:Act}{w:World}{M:Nat→Prop}{ν:Nat→Value}{σ:St}{c:Ctx}{α:Type}{r:α}{next:Act→World→Prop}{Q:Exit→Act→World→Prop}
theorem Fz.own{H H1:Nat→Option aQ}(h:Fz H H1){i:Nat}{e:Ty}{l:List e.den}(hi:H i=some (.own e l)):H1 i=some (.own e l)∨H1 i=some (.jW e l):=by
 rcases h i with h'|⟨e',l',h1,h2⟩
 ·exact .inl (by rw[h',hi])
 ·rw[hi]at h1;cases h1;exact .inr h2
theorem Kg(hE:EnvTy P E)(hc:Core c σ a.tmps w M ν){t:TypeId}{x y:Operand}(ho:o.op= .store t x y){K:fh α}{τ:Ty}(ht:E.ty t=some τ)
  (h:ia τ (σ.ρ x) (σ.ρ y) σ.H K=some r) (hn:dL c σ a o w M ν K r next):o.wp P a w next Q:=by
 unfold ia at h
 split at h
 ·rename_i id p hx
  obtain⟨z,rd,ups,M',h,eH,hV,hz,gG⟩:=jD (.refl _) hc.mem (hc.ev y) h
  have hv:=hc.ev x
  rw[hx]at hv
  have Xx:=VR.br eH.br eH.goes hv
  have tC:=hE.ty t τ ht
  have DC:=hV.cells.length
  rw[Array.length_toList]at DC
  split at h
  ·rename_i υ x0 aR
   have kY:=hz.obj aR
   obtain⟨x1,hK,zX,zO,rM⟩:=ki h
   simp only[VR]at Xx
   obtain⟨e1,He,js⟩:=Xx
   rw[kY]at He;cases He
   simp only[AR]at js
   obtain⟨hi,b,hb,hu⟩:=js
   have iK:=eH.mem.ix id _ kY
   simp only[ER]at iK
   obtain⟨b',cs,te,dv,hg,hM,hr⟩:=iK
   rw[hb]at dv;cases dv
   have zO:=zO hi
   have P9:=hr.length
   rw[Array.length_toList]at P9
   have cw:=iV (P:=P) ho tC hu hg DC (by omega) hV.cells.jX
   rw[Array.length_toList]at cw
   have qq:Tr c (bS σ.H ups) w M' ν (bn (bS σ.H ups) id (some (.obj υ x1))) (w.setRow b (dd cs.toList (bB p υ) (a.eval y).cells.toList).toArray) M' ν:=by
    refine Tr.write (e':= .obj υ x1) eH.mem kY trivial trivial rfl (by rw[hb];rfl) hg fun GG hk u6=> ?_
    simp only[ER]
    refine⟨b,_,te,hb,setRow_heap w b cs _ te _ hg,u6,?_⟩
    exact(rM w M' cs.toList _ hi hr hV.cells).br hk
   refine mB cw ?_
   refine hn _ _ _ _ _ M' ν hK ?_ (by simp[VR])
   rw[dU]
   have:=eH.trans qq
   unfold dd at this
   rw[Array.length_toList]at this
   exact this
  ·rename_i e l aR
   split at h
   ·rename_i i q h0
    obtain⟨wR,h⟩:=iy h
    have kY:bS σ.H ups id=some (.own e l):=by rw[gG id wR];exact aR
    obtain⟨y1,hK,zX,zO,rM⟩:=ki h
    simp only[VR]at Xx
    obtain⟨e1,He,js⟩:=Xx
    rw[kY]at He;cases He
    simp only[AR]at js
    obtain⟨i',q',hpq,zW,hi,b,n,cp,hb,hu⟩:=js
    cases hpq
    have iK:=eH.mem.ix id _ kY
    simp only[ER]at iK
    rcases iK with⟨rfl,_⟩|⟨b',cs,te,cap,dv,hg,hM,Ma,hl,Ay,hs,hr⟩
    ·simp at zW
    ·rw[hb]at dv;cases dv
     have zO:=zO hi
     have oB:=cR (s:=e.size) zW
     have tx:l.length*e.size≤cp*e.size:=Nat.mul_le_mul_right _ hl
     have cw:=iV (P:=P) ho tC hu hg DC (by omega) hV.cells.jX
     rw[Array.length_toList]at cw
     have hri:=hr i zW
     rw[←gm l i e.zero zW]at hri
     have nr:=rM w M' _ _ hi hri hV.cells
     have hch:((cs.toList.drop (i*e.size)).take e.size).length=e.size:=hri.length
     have Qc:dd cs.toList (i*e.size) (dd ((cs.toList.drop (i*e.size)).take e.size) (bB q e) (a.eval y).cells.toList)=dd cs.toList (i*e.size+bB q e) (a.eval y).cells.toList:=by
      have PG:=nr.length
      have e1:cs.toList=cs.toList.take (i*e.size)++(((cs.toList.drop (i*e.size)).take e.size)++cs.toList.drop (i*e.size+e.size)):=by
       rw[←List.drop_drop,List.take_append_drop,List.take_append_drop]
      have dE:(cs.toList.take (i*e.size)).length=i*e.size:=by rw[List.length_take,Array.length_toList];omega
      conv=>rhs;rw[e1]
      rw[show i*e.size+bB q e=(cs.toList.take (i*e.size)).length+bB q e from by rw[dE],q7,tv (by rw[hch,Array.length_toList];omega)]
      generalize dd ((cs.toList.drop (i*e.size)).take e.size) (bB q e) (a.eval y).cells.toList=m at PG ⊢
      unfold dd
      rw[PG,List.append_assoc]
     have qq:Tr c (bS σ.H ups) w M' ν (bn (bS σ.H ups) id (some (.own e (List.set l i y1)))) (w.setRow b (dd cs.toList (i*e.size+bB q e) (a.eval y).cells.toList).toArray) M' ν:=by
      refine Tr.write (e':= .own e (List.set l i y1)) eH.mem kY trivial trivial ⟨rfl,by rw[List.length_set]⟩ (by rw[hb];simp[eh];omega) hg fun GG hk u6=> ?_
      simp only[ER]
      refine .inr ⟨b,_,te,cp,by rw[List.length_set];exact hb,setRow_heap w b cs _ te _ hg,u6,Ma,by rw[List.length_set];exact hl,Ay,?_,?_⟩
      ·rw[←Qc,List.size_toArray,dY (by rw[nr.length,Array.length_toList];omega),Array.length_toList];exact hs
      ·have h9:cs.toList.length=cp*e.size:=by rw[Array.length_toList,hs]
       have h10:=mA.set (w:=w) (M:=M') (cs:=cs.toList) (l:=l) hr (by rw[h9];exact tx) zW nr
       rw[Qc]at h10
       exact fun j hj=>(h10 j hj).br hk
     refine mB cw ?_
     refine hn _ _ _ _ _ M' ν hK ?_ (by simp[VR])
     rw[dU]
     have:=eH.trans qq
     unfold dd at this
     rw[Array.length_toList]at this
     exact this
   ·cases h
  ·cases h
 ·cases h
theorem Fz.dN{H H1:Nat→Option aQ}(h:Fz H H1){i:Nat}{τ:Ty}{x:τ.den}{p:List Step}{j:Nat}(hi:H i=some (.dN τ x p j)):H1 i=some (.dN τ x p j):=by
 rcases h i with h'|⟨e',l',h1,h2⟩
 ·rw[h',hi]
 ·rw[hi]at h1;cases h1
theorem sA{β:Type}{l a:List β}{o:Nat}(hl:o+a.length≤l.length)(i:Nat):(dd l o a)[i]? =if o≤i∧i<o+a.length then a[i-o]? else l[i]? :=by
 unfold dd
 by_cases h1:i<o
 ·rw[if_neg (by omega),List.append_assoc,List.getElem?_append_left (by simp;omega),List.getElem?_take,if_pos h1]
 ·by_cases h2:i<o+a.length
  ·rw[if_pos (by omega),List.getElem?_append_left (by simp;omega),List.getElem?_append_right (by simp;omega)]
   simp[Nat.min_eq_left (show o≤l.length by omega)]
  ·rw[if_neg (by omega),List.getElem?_append_right (by simp;omega)]
   simp only[List.length_append,List.length_take,Nat.min_eq_left (show o≤l.length by omega),List.getElem?_drop]
   congr 1;omega
theorem DD{β:Type}{l a b:List β}{o o':Nat}(h:o'≤o∧o+a.length≤o'+b.length)(h1:o+a.length≤l.length)(h2:o'+b.length≤l.length):dd (dd l o a) o' b=dd l o' b:=by
 have l1:=dY (a:=l) (o:=o) (new:=a) h1
 apply List.ext_getElem?
 intro i
 rw[sA (by omega),sA (by omega),sA (by omega)]
 by_cases c1:o'≤i∧i<o'+b.length
 ·rw[if_pos c1,if_pos c1]
 ·rw[if_neg c1,if_neg c1,if_neg (by omega)]
theorem AB{β:Type}{l:List β}{o:Nat}{u v:β}(h:o<l.length):dd (dd l o [u]) o [v]=dd l o [v]:=
 DD (by simp) (by simp;omega) (by simp;omega)
theorem Mv{β:Type}{l a b:List β}{o o':Nat}(h:o+a.length≤o'∨o'+b.length≤o)(h1:o+a.length≤l.length)(h2:o'+b.length≤l.length):dd (dd l o a) o' b=dd (dd l o' b) o a:=by
 have l1:=dY (a:=l) (o:=o) (new:=a) h1
 have l2:=dY (a:=l) (o:=o') (new:=b) h2
 apply List.ext_getElem?
 intro i
 rw[sA (by omega),sA (by omega),sA (by omega),sA (by omega)]
 by_cases c1:o'≤i∧i<o'+b.length
 ·rw[if_pos c1,if_neg (by omega),if_pos c1]
 ·rw[if_neg c1]
  by_cases c2:o≤i∧i<o+a.length
  ·rw[if_pos c2,if_pos c2]
  ·rw[if_neg c2,if_neg c2,if_neg c1]
theorem DE{m:(υ:Ty)→υ.den→(υ.den→Option α)→Option α}: ∀{τ:Ty} {x:τ.den} {n:Nat} {k:τ.den→Option α},iS τ x n m k=some r→ ∃υ y o k',wM τ x n υ y o∧m υ y k'=some r:=fun h=>by
 obtain⟨υ,y,o,k',h1,h2,_⟩:=nJ h
 exact⟨υ,y,o,k',h1,h2⟩
theorem xX{υ:Ty}{u:υ.den}: ∀{p:List Step} {τ:Ty} {x:τ.den} {k:τ.den→Option α},p6 υ u p τ x k=some r→ ∃y o,BM p τ x υ y o
 |[],τ,x,k,h=>by
  obtain⟨e,_⟩:=a7 (h:bX υ τ u k=some r)
  subst e
  exact⟨x,0,.nil x⟩
 | .gk n::p,τ,x,k,h=>by
  obtain⟨υ',y,o,k',hf,hm⟩:=DE (h:iS τ x n _ k=some r)
  obtain⟨y',o',hp⟩:=xX (k:=k') hm
  exact⟨y',_,.gk hf hp⟩
 | .idx i::p,τ,x,k,h=>by
  cases τ with
  |arr n e=>
   obtain⟨y',o',hp⟩:=xX (p:=p) (τ:=e) (x:=List.getD x i e.zero) (k:=fun z=>k (List.set x i z)) h
   exact⟨y',_,.idx hp⟩
  |_=>simp[p6,xr]at h
theorem AD: ∀{p q:List Step} {τ e:Ty},rI p q=true→eo q τ (.slice e)=true→bB p τ≤bB q τ∧bB q τ+1≤bB p τ+(zT p τ).size
 |[],q,τ,e,_,hq=>by
  obtain⟨_,_,rN⟩:=oA hq τ.zero
  have:=rN.bound (gn hq).1
  have h2:=rN.eq.2
  have:(Ty.slice e).size=1:=rfl
  simp only[bB,zT]
  omega
 | .gk a::p,.gk b::q,τ,e,hp,hq=>by
  simp only[rI,Bool.and_eq_true]at hp
  have:=Nat.eq_of_beq_eq_true hp.1
  subst this
  unfold eo at hq
  split at hq
  ·rename_i c hc
   obtain⟨_,_,hf⟩:=oz hc τ.zero
   have:=hf.eq.1
   subst this
   have:=AD hp.2 hq
   simp only[bB,zT]
   omega
  ·cases hq
 | .gk _::_,[],_,_,hp,_| .gk _::_,.idx _::_,_,_,hp,_| .idx _::_,_,_,_,hp,_=>by simp[rI]at hp
theorem ER.Kh{H:Nat→Option aQ}(hm:Mem c H w M ν){k:Nat}{e:Ty}{l:List e.den}(hk:H k=some (.own e l)): ∃ad cp,ν k= .slice ad l.length cp:=by
 have:=hm.ix k _ hk
 simp only[ER]at this
 rcases this with⟨rfl,a,hv⟩|⟨b,cs,t,cap,hv,_⟩
 ·exact⟨a,0,hv⟩
 ·exact⟨_,cap,hv⟩
theorem xY(hE:EnvTy P E)(hc:Core c σ a.tmps w M ν){t:TypeId}{x y:Operand}(ho:o.op= .store t x y){K:fh α}{τ:Ty}(ht:E.ty t=some τ){id k:Nat}{q:List Step}{e:Ty}{υ:Ty}{z:υ.den}
  (hx:σ.ρ x= .fc id q) (hy:σ.ρ y= .ref k) {en:aQ} (aR:σ.H id=some en) (hen:en.mut) (AE:en.gQ (.dN υ z q k)) (hq:eo q υ (.slice e)=true)
  (lJ: ∃b cs te nG u,ν id= .pointer (some ⟨b,0,none⟩)∧w.heap[b]? =some (.cells cs te (0,0))∧Rd w M υ nG z∧cs.toList=dd nG (bB q υ) [u])
  (h:vJ τ id k e q υ z σ.H K=some r) (hn:dL c σ a o w M ν K r next):o.wp P a w next Q:=by
 unfold vJ at h
 split at h
 ·rename_i e' l hk
  obtain⟨e1,h1⟩:=dF h
  clear h
  subst e1
  obtain⟨e2,h2⟩:=dF h1
  clear h1
  subst e2
  obtain⟨z',hK,zX,zO,rM⟩:=ki h2
  obtain⟨b,cs,te,nG,u,hb,hg,hr,BQ⟩:=lJ
  have Mt:=(gn hq).1
  obtain⟨ad,cp,hνk⟩:=ER.Kh hc.mem hk
  have wS:=hc.ev y
  rw[hy]at wS
  simp only[VR]at wS
  have wS:=wS.2
  have zO:=zO Mt
  have hlen:=hr.length
  have I5:(Ty.slice e').size=1:=rfl
  have dE:bB q υ<nG.length:=by omega
  have DC:cs.toList.length=nG.length:=by rw[BQ];exact dY (by simp;omega)
  have hv:=hc.ev x
  rw[hx]at hv
  simp only[VR]at hv
  obtain⟨e3,he3,js⟩:=hv
  rw[aR]at he3;cases he3
  have js:=js.gQ AE
  simp only[AR]at js
  obtain⟨_,b',dv,hu⟩:=js
  rw[hb]at dv;cases dv
  have hyc:(a.eval y).cells.toList=[ν k]:=by rw[wS,hνk];rfl
  have oT:(a.eval y).cells.size=(Ty.slice e').size:=by rw[←Array.length_toList,hyc];rfl
  have cw:=iV (P:=P) ho (hE.ty t _ ht) hu hg oT (by rw[←Array.length_toList];omega) (by rw[hyc,hνk];simp[Value.oneCell'])
  have nr:(cs.toList.take (bB q υ)++(a.eval y).cells.toList++cs.toList.drop (bB q υ+(a.eval y).cells.toList.length))=dd nG (bB q υ) [ν k]:=by
   rw[hyc]
   show dd cs.toList (bB q υ) [ν k]=_
   rw[BQ,AB dE]
  rw[nr]at cw
  have hrz:Rd w M υ (dd nG (bB q υ) [.slice none 0 0]) z':=rM w M nG [.slice none 0 0] Mt hr (Rd.zero w M (.slice e'))
  have eH:Tr c σ.H w M ν (bn σ.H id (some (.dN υ z' q k))) (w.setRow b (dd nG (bB q υ) [ν k]).toArray) M ν:=by
   refine Tr.write (e':= .dN υ z' q k) hc.mem aR hen trivial (by cases en<;>simp only[aQ.gQ]at AE ⊢ <;>exact AE) (by rw[hb];rfl) hg (fun GG zZ u6=> ?_) (fun τ' x' p' j' hl=> ?_)
   ·simp only[ER]
    refine⟨b,_,te,dd nG (bB q υ) [.slice none 0 0],ν k,hb,setRow_heap w b cs _ te _ hg,u6,hrz.br zZ,?_,by rw[hνk];rfl,e',hq⟩
    rw[AB dE]
   ·cases hl
    refine⟨by rw[hk];simp,b,hb,?_⟩
    rw[cell_of (setRow_heap w b cs _ te _ hg),←Array.getElem?_toList]
    show(dd nG (bB q υ) [ν k])[bB q υ]? =_
    rw[xv dE]
  exact mB cw (hn _ _ _ _ _ M ν hK eH (by simp[VR]))
 ·cases h
theorem xZ(hE:EnvTy P E)(hc:Core c σ a.tmps w M ν){t:TypeId}{x y:Operand}(ho:o.op= .store t x y){K:fh α}{τ:Ty}(ht:E.ty t=some τ)
  (h:fQ E τ (σ.ρ x) (σ.ρ y) σ.H K=some r) (hn:dL c σ a o w M ν K r next):o.wp P a w next Q:=by
 have hold:ia τ (σ.ρ x) (σ.ρ y) σ.H K=some r→o.wp P a w next Q:=fun h=>Kg hE hc ho ht h hn
 unfold fQ at h
 simp only at h
 split at h
 ·rename_i id p hx
  have oF:=hx
  split at h
  ·rename_i υ z aR
   split at h
   ·rename_i q e k oC hy
    cases hp:Di p q
    ·rw[hp]at h;exact hold h
    ·rw[hp]at h
     simp only[cond_true]at h
     have:=uZ hp
     subst this
     have hq:=oG oC
     have iK:=hc.mem.ix id _ aR
     simp only[ER]at iK
     obtain⟨b,cs,te,hb,hg,hM,hr⟩:=iK
     have dE:bB p υ<cs.toList.length:=by
      obtain⟨_,_,rN⟩:=oA hq z
      have:=rN.bound (gn hq).1
      have h2:=rN.eq.2
      have:=hr.length
      have:(Ty.slice e).size=1:=rfl
      omega
     refine xY hE hc ho ht hx hy aR trivial rfl hq ⟨b,cs,te,cs.toList,cs.toList[bB p υ],hb,hg,hr,?_⟩ h hn
     exact(Du (List.getElem?_eq_getElem dE)).symm
   ·exact hold h
  ·rename_i υ z q j aR
   obtain⟨b,cs,te,nG,e0,hb,hg,hM,hr,BQ,h1,hq,dE,hj⟩:=hc.mem.linked aR
   have tD:hQ true (σ.ρ y) σ.H τ (fun y rd ups=>p6 τ y p υ z fun z=>K .any (id::rd) (ups++[(id,some (cond (rI p q) (.obj υ z) (.dN υ z q j)))]))=some r→o.wp P a w next Q:=by
    intro h
    obtain⟨u,rd,ups,M',h,eH,hV,hz,gG⟩:=jD (.refl _) hc.mem (hc.ev y) h
    have kY:=hz.dN aR
    have hv:=hc.ev x
    rw[hx]at hv
    have Xx:=VR.br eH.br eH.goes hv
    simp only[VR]at Xx
    obtain⟨e1,He,js⟩:=Xx
    rw[kY]at He;cases He
    simp only[AR]at js
    obtain⟨hi,b1,jw,hu⟩:=js
    rw[hb]at jw;cases jw
    obtain⟨b2,Xw,te2,cs3,e3,sv,Mu,BR,C6,Qd,Ki,hq2,acv,hj2⟩:=eH.mem.linked kY
    rw[hb]at sv;cases sv
    rw[hg]at Mu;cases Mu
    obtain⟨z',hK,zX,zO,rM⟩:=ki h
    have zO:=zO hi
    have P9:=C6.length
    have DC:cs.toList.length=cs3.length:=by rw[Qd];exact dY (by simp;omega)
    have hcy:=hV.cells.length
    rw[Array.length_toList]at hcy
    have aop:(a.eval y).cells.toList.length=τ.size:=by rw[Array.length_toList];exact hcy
    have cw:=iV (P:=P) ho (hE.ty t _ ht) hu hg hcy (by rw[←Array.length_toList];omega) hV.cells.jX
    have Mw:cs.toList.take (bB p υ)++(a.eval y).cells.toList++cs.toList.drop (bB p υ+(a.eval y).cells.toList.length)=dd cs.toList (bB p υ) (a.eval y).cells.toList:=rfl
    rw[Mw]at cw
    have hzr:=rM w M' cs3 _ hi C6 hV.cells
    have fin: ∀e',e'.mut→aQ.gQ (.dN υ z q j) e'→K .any (id::rd) (ups++[(id,some e')])=some r→(∀GG,da w M' (w.setRow b (dd cs.toList (bB p υ) (a.eval y).cells.toList).toArray) GG→GG b→ER (w.setRow b (dd cs.toList (bB p υ) (a.eval y).cells.toList).toArray) GG (ν id) e')→
      (∀τ' x' p' j',e'= .dN τ' x' p' j'→(bS σ.H ups) j'≠none∧ ∃b',ν id= .pointer (some ⟨b',0,none⟩)∧(w.setRow b (dd cs.toList (bB p υ) (a.eval y).cells.toList).toArray).cell? ⟨b',bB p' τ',none⟩=some (ν j'))→o.wp P a w next Q:=by
     intro e' gp C5 hK Kb oC
     have qq:=Tr.write (e':=e') eH.mem kY trivial gp C5 (by rw[hb];rfl) hg Kb oC
     refine mB cw (hn _ _ _ _ _ M' ν hK ?_ (by simp[VR]))
     rw[dU]
     exact eH.trans qq
    cases Dv:rI p q
    ·rw[Dv]at hK
     simp only[cond_false]at hK
     obtain⟨yy,oo,rN⟩: ∃y o,BM p υ z τ y o:=xX h
     have hap:=rN.apart hi hq Dv
     have hoo:=rN.eq.2
     subst hoo
     have Wg:dd cs.toList (bB p υ) (a.eval y).cells.toList=dd (dd cs3 (bB p υ) (a.eval y).cells.toList) (bB q υ) [ν j]:=by
      rw[Qd]
      exact Mv (by simp only[List.length_singleton];omega) (by simp only[List.length_singleton];omega) (by omega)
     have PG:=dY (a:=cs3) (o:=bB p υ) (new:=(a.eval y).cells.toList) (by omega)
     refine fin (.dN υ z' q j) trivial rfl hK (fun GG hk u6=> ?_) (fun τ' x' p' j' hl=> ?_)
     ·simp only[ER]
      exact⟨b,_,te,_,ν j,hb,setRow_heap w b cs _ te _ hg,u6,hzr.br hk,Wg,h1,e0,hq⟩
     ·cases hl
      refine⟨hj2,b,hb,?_⟩
      rw[cell_of (setRow_heap w b cs _ te _ hg),←Array.getElem?_toList]
      show(dd cs.toList (bB p υ) (a.eval y).cells.toList)[bB q υ]? =_
      rw[Wg,xv (by omega)]
    ·rw[Dv]at hK
     simp only[cond_true]at hK
     refine fin (.obj υ z') trivial rfl hK (fun GG hk u6=> ?_) (fun τ' x' p' j' hl=>by cases hl)
     simp only[ER]
     refine⟨b,_,te,hb,setRow_heap w b cs _ te _ hg,u6,?_⟩
     show Rd _ _ υ (dd cs.toList (bB p υ) (a.eval y).cells.toList) z'
     have jr:=AD Dv hq
     rw[zX]at jr
     have ho:dd cs.toList (bB p υ) (a.eval y).cells.toList=dd cs3 (bB p υ) (a.eval y).cells.toList:=by
      rw[Qd]
      exact DD (by simp only[List.length_singleton];omega) (by simp only[List.length_singleton];omega) (by omega)
     have h9:=hzr.br hk
     rw[←ho]at h9
     exact h9
   split at h
   ·rename_i q' e k oC hy
    cases hp:(Di p q&&Di q q')
    ·rw[hp]at h;exact tD h
    ·rw[hp]at h
     simp only[cond_true]at h
     rw[Bool.and_eq_true]at hp
     have:=uZ hp.1
     subst this
     have:=uZ hp.2
     subst this
     refine xY hE hc ho ht hx hy aR trivial rfl (oG oC) ⟨b,cs,te,nG,ν j,hb,hg,hr,BQ⟩ h hn
   ·exact tD h
  ·exact hold h
 ·exact hold h
theorem Kj(hE:EnvTy P E)(hc:Core c σ a.tmps w M ν){t:TypeId}{x y:Operand}(ho:o.op= .store t x y){K:fh α}{τ:Ty}(ht:E.ty t=some τ)
  (h:n7 E τ (σ.ρ x) (σ.ρ y) σ.H K=some r) (hn:dL c σ a o w M ν K r next):o.wp P a w next Q:=by
 unfold n7 at h
 split at h
 ·rename_i id υ z n hx hy
  split at h
  ·rename_i m e oC
   cases xW:Nat.beq m n
   ·rw[xW]at h
    simp only[cond_false]at h
    exact xZ hE hc ho ht h hn
   ·rw[xW]at h
    simp only[cond_true]at h
    have xW:=Nat.eq_of_beq_eq_true xW
    subst xW
    obtain⟨e1,h1⟩:=dF h
    clear h
    subst e1
    have hq:=oG oC
    have wS:=hc.ev y
    rw[hy]at wS
    simp only[VR]at wS
    obtain⟨hV,cs,ad,hva,hz⟩:=wS
    have hcy:(a.eval y).cells=cs:=by rw[hva];rfl
    obtain⟨en,aR,hen,hK⟩: ∃en:aQ,σ.H id=some en∧(∃z0,en= .obj τ z0∨ ∃q j,en= .dN τ z0 q j)∧σ.H (id+2)=none∧K .any [id,id+2] [(id,some (.dN τ z [.gk m] (id+2))),(id+2,some (.own e []))]=some r:=by
     unfold iU at h1
     split at h1
     ·rename_i υ z0 aR
      obtain⟨e2,h2⟩:=dF h1
      clear h1
      subst e2
      obtain⟨h3,h4⟩:=gR h2
      exact⟨_,aR,⟨z0,.inl rfl⟩,h3,h4⟩
     ·rename_i υ z0 q j aR
      obtain⟨e2,h2⟩:=dF h1
      clear h1
      subst e2
      obtain⟨h3,h4⟩:=gR h2
      exact⟨_,aR,⟨z0,.inr ⟨q,j,rfl⟩⟩,h3,h4⟩
     ·cases h1
     ·cases h1
     ·cases h1
    obtain⟨hk,hK⟩:=hK
    have ahX:en.mut:=by rcases hen with⟨z0,rfl|⟨q,j,rfl⟩⟩<;>trivial
    have AE:en.gQ (.obj τ z):=by rcases hen with⟨z0,rfl|⟨q,j,rfl⟩⟩<;>rfl
    obtain⟨b,nG,te,hb,hg,oT⟩: ∃b nG te,ν id= .pointer (some ⟨b,0,none⟩)∧w.heap[b]? =some (.cells nG te (0,0))∧nG.toList.length=τ.size:=by
     rcases hen with⟨z0,rfl|⟨q,j,rfl⟩⟩
     ·have:=hc.mem.ix id _ aR
      simp only[ER]at this
      obtain⟨b,nG,te,h2,h3,_,h5⟩:=this
      exact⟨b,nG,te,h2,h3,h5.length⟩
     ·obtain⟨b,nG,te,tg,_,h2,h3,_,h5,h6,_,_,h7,_⟩:=hc.mem.linked aR
      refine⟨b,nG,te,h2,h3,?_⟩
      rw[h6,dY (by simp only[List.length_singleton];omega),h5.length]
    have hv:=hc.ev x
    rw[hx]at hv
    simp only[VR]at hv
    obtain⟨e3,he3,js⟩:=hv
    rw[aR]at he3;cases he3
    have js:=js.gQ AE
    simp only[AR]at js
    obtain⟨_,b',dv,hu⟩:=js
    rw[hb]at dv;cases dv
    have DC:=hV.cells.length
    have cw:=iV (P:=P) ho (hE.ty t _ ht) hu hg (by rw[←Array.length_toList];exact DC) (by rw[←Array.length_toList,oT];simp[bB]) hV.cells.jX
    have Mw:nG.toList.take (bB [] τ)++(a.eval y).cells.toList++nG.toList.drop (bB [] τ+(a.eval y).cells.toList.length)=(a.eval y).cells.toList:=by
     simp only[bB,List.take_zero,List.nil_append,Nat.zero_add]
     rw[List.drop_of_length_le (by omega),List.append_nil]
    rw[Mw]at cw
    have rM:=setRow_heap w b nG (a.eval y).cells.toList.toArray te _ hg
    have eH:=Tr.write (e':= .obj τ z) (new:=(a.eval y).cells.toList.toArray) hc.mem aR ahX trivial AE (by rw[hb];rfl) hg (fun GG zZ u6=>by
     simp only[ER]
     exact⟨b,_,te,hb,rM,u6,hV.cells.br zZ⟩)
    have gH:id+2≠id:=by omega
    have qq:=Tr.Mr eH.mem (id:=id) (k:=id+2) (by rw[al _ _ gH];exact hk) (ak _ _ _) hb rM hq (ad:=ad) (by rw[hcy];simpa [bB]using hz)
    have e1:bS (bn σ.H id (some (.obj τ z))) [(id,some (.dN τ z [.gk m] (id+2))),(id+2,some (.own e []))]=bS σ.H [(id,some (.dN τ z [.gk m] (id+2))),(id+2,some (.own e []))]:=by
     show bn (bn (bn σ.H id _) id _) (id+2) _=bn (bn σ.H id _) (id+2) _
     rw[sx]
    rw[e1]at qq
    exact mB cw (hn _ _ _ _ _ _ _ hK (eH.trans qq) (by simp[VR]))
  ·exact xZ hE hc ho ht h hn
 ·exact xZ hE hc ho ht h hn
end VM
end
section
namespace VM
open Go
variable{P:Program}{E:Env}{o:Oper}{a:Act}{w:World}{M:Nat→Prop}{ν:Nat→Value}{σ:St}{c:Ctx}{α:Type}{r:α}{next:Act→World→Prop}{Q:Exit→Act→World→Prop}
theorem nb{n:Nat}(h:Nat.beq n 0=false):n≠0:=by rw[←Bool.not_eq_true,Nat.beq_eq]at h;exact h
theorem At.sub{b off:Nat}{cs:List Value}(h:At w b off cs)(o n:Nat):At w b (off+o) ((cs.drop o).take n):=by
 intro j v hj
 rw[List.getElem?_take]at hj
 split at hj
 ·rw[List.getElem?_drop]at hj
  have:=h _ v hj
  rwa [←Nat.add_assoc]at this
 ·cases hj
def qt:aQ→List Step→Option Ty
 | .obj τ _,p=>some (zT p τ)
 | .dN τ _ _ _,p=>some (zT p τ)
 | .own e _,.idx _::p| .jW e _,.idx _::p=>some (zT p e)
 |_,_=>none
theorem ya{id:Nat}{p:List Step}{H:Nat→Option aQ}{k:Ty→Option α}(h:iU id p H k=some r): ∃e υ,H id=some e∧qt e p=some υ∧k υ=some r:=by
 unfold iU at h
 split at h
 ·rename_i τ x aR
  obtain⟨υ,y,o,hp,hk⟩:=fT h
  exact⟨_,υ,aR,by simp[qt,hp.eq.1],hk⟩
 ·rename_i τ x _ _ aR
  obtain⟨υ,y,o,hp,hk⟩:=fT h
  exact⟨_,υ,aR,by simp[qt,hp.eq.1],hk⟩
 ·rename_i e l aR
  split at h
  ·obtain⟨υ,y,o,hp,hk⟩:=fT h
   exact⟨_,υ,aR,by simp[qt,hp.eq.1],hk⟩
  ·cases h
 ·rename_i e l aR
  split at h
  ·obtain⟨υ,y,o,hp,hk⟩:=fT h
   exact⟨_,υ,aR,by simp[qt,hp.eq.1],hk⟩
  ·cases h
 ·cases h
theorem AR.step{v:Value}{p:List Step}{u:Value}{e:aQ}{υ:Ty}(h:AR v p u e)(ht:qt e p=some υ)(s:Step)(hs:rL [s] υ):
  ∃b off,u= .pointer (some ⟨b,off,none⟩)∧AR v (p++[s]) (.pointer (some ⟨b,off+bB [s] υ,none⟩)) e:=by
 cases e with
 |obj τ x=>
  simp only[qt,Option.some.injEq]at ht
  simp only[AR]at h ⊢
  obtain⟨hi,b,hb,rfl⟩:=h
  subst ht
  exact⟨b,_,rfl,(nF p [s] τ).2 ⟨hi,hs⟩,b,hb,by rw[nE]⟩
 |dN τ x _ _=>
  simp only[qt,Option.some.injEq]at ht
  simp only[AR]at h ⊢
  obtain⟨hi,b,hb,rfl⟩:=h
  subst ht
  exact⟨b,_,rfl,(nF p [s] τ).2 ⟨hi,hs⟩,b,hb,by rw[nE]⟩
 |own e l=>
  simp only[AR]at h ⊢
  obtain⟨i,q,rfl,zW,hi,b,n,cp,hb,rfl⟩:=h
  simp only[qt,Option.some.injEq]at ht
  subst ht
  exact⟨b,_,rfl,i,q++[s],rfl,zW,(nF q [s] e).2 ⟨hi,hs⟩,b,n,cp,hb,by rw[nE,Nat.add_assoc]⟩
 |jW e l=>
  simp only[AR]at h ⊢
  obtain⟨i,q,rfl,zW,hi,b,n,cp,hb,rfl⟩:=h
  simp only[qt,Option.some.injEq]at ht
  subst ht
  exact⟨b,_,rfl,i,q++[s],rfl,zW,(nF q [s] e).2 ⟨hi,hs⟩,b,n,cp,hb,by rw[nE,Nat.add_assoc]⟩
 |gone=>simp[qt]at ht
theorem u7(hE:EnvTy P E)(hc:Core c σ a.tmps w M ν){t:TypeId}{x:Operand}{n:Nat}(ho:o.op= .fieldAddr t x n){K:fh α}{τ:Ty}(ht:E.ty t=some τ){id:Nat}{p:List Step}(hx:σ.ρ x= .fc id p)
  (h:iU id p σ.H (fun υ=>iT υ τ (rJ τ τ.zero n fun υ' _=>cond (Nat.beq υ'.size 0) none (K (.fc id (p++[.gk n])) [id] [])))=some r) (hn:dL c σ a o w M ν K r next):o.wp P a w next Q:=by
 obtain⟨e,υ,aR,het,h⟩:=ya h
 obtain⟨Xy,h_⟩:=dF h
 clear h
 subst Xy
 have h:=h_
 clear h_
 obtain⟨υ',y,of,hf,h⟩:=oy h
 obtain⟨hz,h⟩:=iy h
 have hv:=hc.ev x
 rw[hx]at hv
 simp only[VR]at hv
 obtain⟨e',rX,js⟩:=hv
 rw[aR]at rX;cases rX
 obtain⟨b,off,hu,Xz⟩:=js.step het (.gk n) trivial
 obtain⟨fs,f,GJ,hff,hfo,My⟩:=(hE.ty t υ ht).gk hf
 obtain⟨v,cw,hvv⟩:=oE (P:=P) ho (w:=w) GJ hff My (nb hz) hu
 refine aO cw (hn _ _ _ _ _ M ν h (.refl hc.mem) ?_)
 simp only[VR]
 refine⟨e,aR,?_⟩
 rw[hvv,hfo,hf.eq.2]
 simpa [bB]using Xz
theorem tE(hE:EnvTy P E)(hc:Core c σ a.tmps w M ν){t:TypeId}{x:Operand}{n:Nat}(ho:o.op= .fieldAddr t x n){K:fh α}{τ:Ty}(ht:E.ty t=some τ){υ:Ty}{z:υ.den}(hx:σ.ρ x= .mq υ z)
  (h:iT υ τ (rJ υ z n fun υ y=>cond (Nat.beq υ.size 0) none (K (.mq υ y) [] []))=some r) (hn:dL c σ a o w M ν K r next):o.wp P a w next Q:=by
 obtain⟨he,h1⟩:=dF h
 subst he
 obtain⟨υ',y,of,hf,h⟩:=oy h1
 obtain⟨hz,h⟩:=iy h
 have hv:=hc.ev x
 rw[hx]at hv
 simp only[VR]at hv
 obtain⟨b,off,hu,hb,hM,cs,lH,hr⟩:=hv
 obtain⟨fs,f,GJ,hff,hfo,My⟩:=(hE.ty t υ ht).gk hf
 obtain⟨v,cw,hvv⟩:=oE (P:=P) ho (w:=w) GJ hff My (nb hz) hu
 refine aO cw (hn _ _ _ _ _ M ν h (.refl hc.mem) ?_)
 simp only[VR]
 exact⟨b,off+f.offset,hvv,hb,hM,_,by rw[hfo];exact lH.sub of υ'.size,hf.rd hr⟩
theorem V.agg{τ:Ty}(ha:τ.isAgg=true){v:Value}{x:τ.den}(h:V w M τ v x): ∃cs,v= .agg cs∧Rd w M τ cs.toList x:=by
 unfold V at h;rw[if_pos ha]at h;exact h
theorem wM.agg{τ:Ty}{x:τ.den}{n:Nat}{υ:Ty}{y:υ.den}{o:Nat}(h:wM τ x n υ y o):τ.isAgg=true:=by cases h<;>rfl
theorem Mz(hE:EnvTy P E)(hc:Core c σ a.tmps w M ν){t:TypeId}{x:Operand}{n:Nat}(ho:o.op= .field t x n){K:fh α}{τ:Ty}(ht:E.ty t=some τ){υ:Ty}{z:υ.den}(hx:σ.ρ x= .val υ z)
  (h:iT υ τ (rJ υ z n fun υ y=>K (.val υ y) [] [])=some r) (hn:dL c σ a o w M ν K r next):o.wp P a w next Q:=by
 obtain⟨he,h1⟩:=dF h
 subst he
 obtain⟨υ',y,of,hf,h⟩:=oy h1
 have hv:=hc.ev x
 rw[hx]at hv
 simp only[VR]at hv
 obtain⟨cs,hu,hr⟩:=hv.agg hf.agg
 obtain⟨fs,f,GJ,hff,hfo,My⟩:=(hE.ty t υ ht).gk hf
 have dr:=hf.rd hr
 refine aO (BP ho GJ hff My hu (by rw[hfo];exact dr)) (hn _ _ _ _ _ M ν h (.refl hc.mem) ?_)
 simp only[VR]
 rw[hfo]
 exact V.bE dr
theorem BS(hE:EnvTy P E)(hc:Core c σ a.tmps w M ν){t:TypeId}{x i:Operand}(ho:o.op= .indexAddr t x i){K:fh α}{τ:Ty}(ht:E.ty t=some τ)
  (h:dX τ (σ.ρ x) (σ.ρ i) σ.H K=some r) (hn:dL c σ a o w M ν K r next):o.wp P a w next Q:=by
 unfold dX at h
 obtain⟨k,n,hi,h2⟩:=iW h
 clear h
 have h:=h2
 clear h2
 have I6:=hc.ev i
 rw[hi]at I6
 have I6:=I6.int
 have hv:=hc.ev x
 have tC:=hE.ty t τ ht
 split at h
 ·
  rename_i e
  obtain⟨e',GJ,hle⟩:=tC.slice
  split at h
  ·rename_i υ l hx
   obtain⟨e1,h⟩:=a7 h
   subst e1
   obtain⟨jr,h⟩:=bA h
   obtain⟨h0,h1⟩:=o0 jr
   have h1:n<(List.length l:Int):=h1
   rw[hx]at hv
   simp only[VR]at hv
   have hv:=V.slice.1 hv
   simp only[Rd,List.cons.injEq,and_true]at hv
   obtain⟨ad,cap,hu,acy,hr⟩:=hv
   obtain⟨b,off,rfl,hb,hM,cs,lH,gG⟩:=hr n.toNat (by omega)
   refine aO (gL ho GJ hle hu I6 h0 h1) (hn _ _ _ _ _ M ν h (.refl hc.mem) ?_)
   simp only[VR]
   refine⟨b,_,rfl,hb,hM,cs,lH,?_⟩
   have:Rd w M e cs (List.getD l n.toNat e.zero):=by rw[gm l n.toNat e.zero (by omega)];exact gG
   exact this
  ·rename_i id hx
   rw[hx]at hv
   simp only[VR]at hv
   obtain⟨_,hu⟩:=hv
   split at h
   ·rename_i e2 l aR
    obtain⟨Xy,h_⟩:=dF h
    clear h
    subst Xy
    have h:=h_
    clear h_
    obtain⟨jr,h⟩:=bA h
    obtain⟨h0,h1⟩:=o0 jr
    have iK:=hc.mem.ix id _ aR
    simp only[ER]at iK
    rcases iK with⟨rfl,_⟩|⟨b,cs,te,cap,hb,hg,hM,Ma,hl,Ay,hs,hr⟩
    ·simp at h1;omega
    ·rw[hb]at hu
     refine aO (gL ho GJ hle hu I6 h0 h1) (hn _ _ _ _ _ M ν h (.refl hc.mem) ?_)
     simp only[VR]
     refine⟨_,aR,?_⟩
     simp only[AR]
     exact⟨n.toNat,[],rfl,by omega,trivial,b,_,_,hb,by simp[bB]⟩
   ·rename_i e2 l aR
    obtain⟨Xy,h_⟩:=dF h
    clear h
    subst Xy
    have h:=h_
    clear h_
    obtain⟨jr,h⟩:=bA h
    obtain⟨h0,h1⟩:=o0 jr
    have iK:=hc.mem.ix id _ aR
    simp only[ER]at iK
    obtain⟨gG,hhd⟩:=iK
    simp only[Rd,List.cons.injEq,and_true]at gG
    obtain⟨ad,cap,hb,acy,hr⟩:=gG
    rcases hhd with⟨rfl,_⟩|⟨b,n2,c2,sv⟩
    ·simp at h1;omega
    ·rw[hb]at sv;cases sv
     rw[hb]at hu
     refine aO (gL ho GJ hle hu I6 h0 h1) (hn _ _ _ _ _ M ν h (.refl hc.mem) ?_)
     simp only[VR]
     refine⟨_,aR,?_⟩
     simp only[AR]
     exact⟨n.toNat,[],rfl,by omega,trivial,b,_,_,hb,by simp[bB]⟩
   ·cases h
  ·cases h
 ·
  rename_i len e
  obtain⟨e',GJ,hle⟩:=tC.arr
  split at h
  ·rename_i id p hx
   obtain⟨en,υ,aR,het,h⟩:=ya h
   obtain⟨Xy,h_⟩:=dF h
   clear h
   subst Xy
   have h:=h_
   clear h_
   obtain⟨jr,h⟩:=bA h
   obtain⟨h0,h1⟩:=o0 jr
   rw[hx]at hv
   simp only[VR]at hv
   obtain⟨en',rX,js⟩:=hv
   rw[aR]at rX;cases rX
   obtain⟨b,off,hu,Xz⟩:=js.step het (.idx n.toNat) ⟨⟨len,e,rfl,by omega⟩,trivial⟩
   refine aO (nI ho GJ hle hu I6 h0 h1) (hn _ _ _ _ _ M ν h (.refl hc.mem) ?_)
   simp only[VR]
   refine⟨en,aR,?_⟩
   simpa [bB,Xo]using Xz
  ·rename_i υ l hx
   obtain⟨e1,h⟩:=a7 h
   subst e1
   obtain⟨jr,h⟩:=bA h
   obtain⟨h0,h1⟩:=o0 jr
   rw[hx]at hv
   simp only[VR]at hv
   obtain⟨b,off,hu,hb,hM,cs,lH,hr⟩:=hv
   refine aO (nI ho GJ hle hu I6 h0 h1) (hn _ _ _ _ _ M ν h (.refl hc.mem) ?_)
   simp only[VR]
   exact⟨b,_,rfl,hb,hM,_,lH.sub _ e.size,hr.idx (by omega)⟩
  ·cases h
 ·cases h
theorem wT(hc:Core c σ a.tmps w M ν){x:Operand}(ho:o.op= .nilCheck x){K:fh α}{id:Nat}{p:List Step}(hx:σ.ρ x= .fc id p)
  (h:K (.fc id p) [] []=some r) (hn:dL c σ a o w M ν K r next):o.wp P a w next Q:=by
 have hv:=hc.ev x
 have MA:=hv
 rw[hx]at hv
 simp only[VR]at hv
 obtain⟨e,he,js⟩:=hv
 obtain⟨ad,hu⟩:=js.ptr
 refine aO (pU ho hu) (hn _ _ _ _ _ M ν h (.refl hc.mem) ?_)
 rw[←hu,←hx];exact MA
theorem u9(hc:Core c σ a.tmps w M ν){x:Operand}(ho:o.op= .nilCheck x){K:fh α}{τ:Ty}{z:τ.den}(hx:σ.ρ x= .mq τ z)
  (h:K (.mq τ z) [] []=some r) (hn:dL c σ a o w M ν K r next):o.wp P a w next Q:=by
 have hv:=hc.ev x
 have MA:=hv
 rw[hx]at hv
 simp only[VR]at hv
 obtain⟨b,off,hu,_⟩:=hv
 refine aO (pU ho hu) (hn _ _ _ _ _ M ν h (.refl hc.mem) ?_)
 rw[←hu,←hx];exact MA
theorem fv.get{H:Nat→Option aQ}: ∀{lF:List aX} {vs:List Value},fv w M H ν lF vs→ ∀{i:Nat} {x:aX},lF[i]? =some x→ ∃v,vs[i]? =some v∧VR w M H ν x v
 |[],_,_,i,x,hx=>by simp at hx
 |y::lF,[],h,_,_,_=>by simp[fv]at h
 |y::lF,v::vs,h,0,x,hx=>by
  simp only[fv]at h
  simp at hx;subst hx
  exact⟨v,rfl,h.1⟩
 |y::lF,v::vs,h,i+1,x,hx=>by
  simp only[fv]at h
  exact fv.get h.2 (by simpa using hx)
theorem Hf(hc:Core c σ a.tmps w M ν){x:Operand}{i:Nat}(ho:o.op= .extract x i){K:fh α}{vs:List aX}{v:aX}(hx:σ.ρ x= .tup vs)(hi:vs[i]? =some v)
  (h:K v [] []=some r) (hn:dL c σ a o w M ν K r next):o.wp P a w next Q:=by
 have hv:=hc.ev x
 rw[hx]at hv
 simp only[VR]at hv
 obtain⟨us,hu,Qe⟩:=hv
 obtain⟨u,hui,hvu⟩:=Qe.get hi
 exact aO (xT ho hu hui) (hn _ _ _ _ _ M ν h (.refl hc.mem) hvu)
theorem Core.evs(hc:Core c σ a.tmps w M ν): ∀xs:List Operand,fv w M σ.H ν (xs.map σ.ρ) (xs.map a.eval)
 |[]=>by simp[fv]
 |x::xs=>by simp only[List.map_cons,fv];exact⟨hc.ev x,hc.evs xs⟩
theorem qu: ∀{lF:List aX} {vs:List Value} {H:Nat→Option aQ} {M:Nat→Prop} {K:List aX→List Nat→fg→Option α},Mem c H w M ν→fv w M H ν lF vs→ql H lF K=some r→
  ∃cs rd ups M',K cs rd ups=some r∧Tr c H w M ν (bS H ups) w M' ν∧fv w M' (bS H ups) ν cs vs
 |[],vs,H,M,K,hm,hv,h=>⟨[],[],[],M,h,.refl hm,hv⟩
 |x::xs,[],H,M,K,hm,hv,h=>by simp[fv]at hv
 |x::xs,v::vs,H,M,K,hm,hv,h=>by
  simp only[fv]at hv
  unfold ql at h
  split at h
  ·rename_i id
   split at h
   ·rename_i τ z aR
    obtain⟨M1,b,ht,hb,dE,hM,nG,lH,gG⟩:=Tr.fix hm aR
    obtain⟨cs,rd,ups,M2,hK,PI,Qf⟩:=qu ht.mem (fv.br ht.br ht.goes hv.2) h
    refine⟨_,_,_,M2,hK,ht.trans PI,?_⟩
    have h1:VR w M1 (bn H id (some .gone)) ν (.mq τ z) v:=by
     have Hg:=hv.1
     simp only[VR]at Hg ⊢
     obtain⟨e,he,js⟩:=Hg
     rw[aR]at he;cases he
     simp only[AR]at js
     obtain⟨_,b',dv,Hg⟩:=js
     rw[hb]at dv;cases dv
     exact⟨b,0,Hg,dE,hM,nG,lH,gG⟩
    simp only[fv]
    exact⟨VR.br PI.br PI.goes h1,Qf⟩
   ·cases h
  ·obtain⟨cs,rd,ups,M2,hK,PI,Qf⟩:=qu hm hv.2 h
   refine⟨_,_,_,M2,hK,PI,?_⟩
   simp only[fv]
   exact⟨VR.br PI.br PI.goes hv.1,Qf⟩
theorem DF(hc:Core c σ a.tmps w M ν){f:FuncId}{first caps:Array Operand}(ho:o.op= .makeFunc (.func f) first caps){K:fh α}
  (h:cond first.isEmpty (ql σ.H (caps.toList.map σ.ρ) fun cs rd ups=>K (.Dj f cs) rd ups) none=some r) (hn:dL c σ a o w M ν K r next):o.wp P a w next Q:=by
 obtain⟨hf,h⟩:=bA h
 obtain⟨cs,rd,ups,M',hK,ht,hv⟩:=qu hc.mem (hc.evs _) h
 refine aO (wP ho (by simpa using hf)) (hn _ _ _ _ _ M' ν hK ht ?_)
 simp only[VR]
 exact⟨caps.toList.map a.eval,by congr 1;apply Array.ext';simp,hv⟩
theorem Hh(hE:EnvTy P E)(hc:Core c σ a.tmps w M ν){s d:TypeId}{x:Operand}(ho:o.op= .convert s d x){K:fh α}{τ:Ty}{k:IntKind}(hs:E.ty s=some τ)(hd:E.ty d=some (.int k))
  (h:qi (σ.ρ x) (fun _ n=>K (.val (.int k) (W k n)) [] [])=some r) (hn:dL c σ a o w M ν K r next):o.wp P a w next Q:=by
 obtain⟨k',n,hx,h⟩:=iW h
 have hv:=hc.ev x
 rw[hx]at hv
 refine aO (xU ho (hE.ty s τ hs).isSome (hE.ty d _ hd).int hv.int) (hn _ _ _ _ _ M ν h (.refl hc.mem) ?_)
 rw[xM];exact .mkInt k _
end VM
end
section
namespace VM
open Go
variable{P:Program}{E:Env}{o:Oper}{a:Act}{w:World}{M:Nat→Prop}{ν:Nat→Value}{σ:St}{c:Ctx}{α:Type}{r:α}{next:Act→World→Prop}{Q:Exit→Act→World→Prop}
theorem Kk{b:BinOp}{k k':IntKind}{x y:Int}{t:TypeId}{K:aX→Option α}(h:P4 b k x y K=some r):
  ∃z,K (.val (.int k) z)=some r∧(binOp b t (.int k x) (.int k' y)).run P w= .ok (.int k z) w:=by
 unfold P4 at h
 split at h
 ·obtain⟨h0,h⟩:=iy h
  rw[sr]at h0
  have h0: ¬y<0:=by simpa using h0
  refine⟨_,h,?_⟩
  rw[xM,Mm]
  simp[binOp,Op.shift,h0]
 ·obtain⟨h0,h⟩:=iy h
  rw[sr]at h0
  have h0: ¬y<0:=by simpa using h0
  refine⟨_,h,?_⟩
  rw[Ha]
  simp[binOp,Op.shift,h0]
 ·cases h
theorem BT{b:BinOp}{k:IntKind}{x y:Int}{t:TypeId}{K:aX→Option α}(h:oW b k x y K=some r):
  ∃v u,K v=some r∧(binOp b t (.int k x) (.int k y)).run P w= .ok u w∧ ∀H,VR w M H ν v u:=by
 unfold oW at h
 split at h
 ·exact⟨_,_,h,by simp[binOp,Op.intArith,xM],fun H=> .mkInt _ _⟩
 ·exact⟨_,_,h,by simp[binOp,Op.intArith,xM],fun H=> .mkInt _ _⟩
 ·exact⟨_,_,h,by simp[binOp,Op.intArith,xM],fun H=> .mkInt _ _⟩
 ·obtain⟨h0,h⟩:=iy h
  rw[eR]at h0
  have h0: ¬y=0:=by simpa using h0
  exact⟨_,_,h,by simp[binOp,Op.intDiv,xM,Xk,h0],fun H=> .mkInt _ _⟩
 ·obtain⟨h0,h⟩:=iy h
  rw[eR]at h0
  have h0: ¬y=0:=by simpa using h0
  exact⟨_,_,h,by simp[binOp,Op.intDiv,Xl,h0],fun H=> .mkInt _ _⟩
 ·exact⟨_,_,h,by simp[binOp,Op.intBits,oV],fun H=> .mkInt _ _⟩
 ·exact⟨_,_,h,by simp[binOp,Op.intBits,oV],fun H=> .mkInt _ _⟩
 ·exact⟨_,_,h,by simp[binOp,Op.intBits,oV],fun H=> .mkInt _ _⟩
 ·exact⟨_,_,h,by simp[binOp,Op.intBits,oV],fun H=> .mkInt _ _⟩
 ·exact⟨_,.bool (decide (x=y)),h,by simp[binOp,Op.intCmp];rfl,fun H=>by rw[eR];exact .oZ _⟩
 ·exact⟨_,.bool (!decide (x=y)),h,by simp[binOp,Op.intCmp];rfl,fun H=>by rw[eR];exact .oZ _⟩
 ·exact⟨_,_,h,by simp[binOp,Op.intCmp,sr],fun H=> .oZ _⟩
 ·exact⟨_,_,h,by simp[binOp,Op.intCmp,iR],fun H=> .oZ _⟩
 ·exact⟨_,_,h,by simp[binOp,Op.intCmp,sr],fun H=> .oZ _⟩
 ·exact⟨_,_,h,by simp[binOp,Op.intCmp,iR],fun H=> .oZ _⟩
 ·cases h
theorem Kl{t:Option Ty}{op:BinOp}{τ:Ty}{x:τ.den}{υ:Ty}{y:υ.den}{K:aX→Option α}(h:xP t op τ x υ y K=some r):
  (∃(k k':IntKind) (m n:Int),aX.val τ x= .val (.int k) m∧aX.val υ y= .val (.int k') n∧(cond (P5 op) (P4 op k m n K) (if k=k' then oW op k m n K else none))=some r)∨
  (∃z:τ.den,aX.val υ y= .val τ z∧t=some τ∧τ.comparable=true∧((op= .eql∧K (.val .bool (kV τ x z))=some r)∨(op= .neq∧K (.val .bool (!kV τ x z))=some r))):=by
 unfold xP at h
 split at h
 ·exact .inl ⟨_,_,_,_,rfl,rfl,h⟩
 ·right
  split at h
  ·cases h
  ·obtain⟨e,h1⟩:=dF h
   clear h
   subst e
   obtain⟨hc,h⟩:=bA h1
   clear h1
   split at h
   ·obtain⟨e,h1⟩:=a7 h
    subst e
    exact⟨_,rfl,rfl,hc,.inl ⟨rfl,h1⟩⟩
   ·obtain⟨e,h1⟩:=a7 h
    subst e
    exact⟨_,rfl,rfl,hc,.inr ⟨rfl,h1⟩⟩
   ·cases h
theorem vO{t:TypeId}(hu:P.underlying t=some .bool)(x y:Bool)(w:World):(Op.equal t (.bool x) (.bool y)).run P w= .ok (x==y) w:=by
 unfold Op.equal
 obtain⟨n,hn⟩: ∃n,Op.maxDepth=n+1:=⟨9999,rfl⟩
 rw[hn]
 simp[Op.equalIn,run_underlying hu]
theorem run_eql_bool{t:TypeId}(hu:P.underlying t=some .bool)(x y:Bool):(binOp .eql t (.bool x) (.bool y)).run P w= .ok (.bool (x==y)) w:=by
 simp[binOp,vO hu]
theorem run_neq_bool{t:TypeId}(hu:P.underlying t=some .bool)(x y:Bool):(binOp .neq t (.bool x) (.bool y)).run P w= .ok (.bool (!(x==y))) w:=by
 simp[binOp,vO hu]
theorem acA(x y:ByteArray):(x.toList==y.toList)=decide (x.toList=y.toList):=by
 rw[Bool.eq_iff_iff];simp
theorem DG{t:TypeId}(x y:ByteArray):(binOp .eql t (.string x) (.string y)).run P w= .ok (.bool (decide (x.toList=y.toList))) w:=by
 simp[binOp,Op.stringOp,acA]
theorem DH{t:TypeId}(x y:ByteArray):(binOp .neq t (.string x) (.string y)).run P w= .ok (.bool (!decide (x.toList=y.toList))) w:=by
 simp[binOp,Op.stringOp,acA]
theorem MB(hE:EnvTy P E)(hc:Core c σ a.tmps w M ν){b:BinOp}{t t':TypeId}{x y:Operand}(ho:o.op= .binOp b t x y t'){K:fh α}
  (h:Dm (σ.ρ x) (fun τ x=>Dm (σ.ρ y) fun υ y=>xP (E.ty t) b τ x υ y fun v=>K v [] [])=some r) (hn:dL c σ a o w M ν K r next):o.wp P a w next Q:=by
 have hx:=hc.ev x
 have hy:=hc.ev y
 unfold Dm at h
 split at h
 ·rename_i τ x' XA
  split at h
  ·rename_i υ y' hye
   rw[XA]at hx;rw[hye]at hy
   rcases Kl h with⟨k,k',m,n,e1,e2,h1⟩|⟨z,e2,ht,Km,h1⟩
   ·rw[e1]at hx;rw[e2]at hy
    have hx:=hx.int
    have hy:=hy.int
    cases hs:P5 b
    ·rw[hs]at h1
     replace h1:(if k=k' then oW b k m n (fun v=>K v [] [])else none)=some r:=h1
     split at h1
     ·rename_i hk;subst hk
      obtain⟨v,u,hK,cw,hVR⟩:=BT (P:=P) (w:=w) (M:=M) (ν:=ν) (t:=t) h1
      exact aO (lI ho (by rw[hx,hy];exact kZ w) (by rw[hx,hy];exact cw)) (hn _ [] [] _ _ _ _ hK (.refl hc.mem) (hVR _))
     ·cases h1
    ·rw[hs]at h1
     replace h1:P4 b k m n (fun v=>K v [] [])=some r:=h1
     obtain⟨z,hK,cw⟩:=Kk (P:=P) (w:=w) (k':=k') (t:=t) h1
     exact aO (lI ho (by rw[hx,hy];exact kZ w) (by rw[hx,hy];exact cw)) (hn _ [] [] _ _ _ _ hK (.refl hc.mem) (.mkInt _ _))
   ·rw[e2]at hy
    have key:(eqGuard b t x y (a.eval x) (a.eval y)).run P w= .ok () w∧(binOp .eql t (a.eval x) (a.eval y)).run P w= .ok (.bool (kV τ x' z)) w∧(binOp .neq t (a.eval x) (a.eval y)).run P w= .ok (.bool (!kV τ x' z)) w:=by
     by_cases Dy:τ.isAgg=true
     ·simp only[VR]at hx hy
      exact hE.eq t τ ht Km Dy w M _ _ _ _ b x y hx hy
     ·have hl:=hE.ty t τ ht
      cases τ with
      |int k=>
       rw[hx.int,hy.int]
       refine⟨kZ w,?_,?_⟩
       ·simp[binOp,Op.intCmp,kV,eR];rfl
       ·simp[binOp,Op.intCmp,kV,eR];rfl
      |bool=>rw[hx.bool,hy.bool];exact⟨u5 w,run_eql_bool hl.bool _ _,run_neq_bool hl.bool _ _⟩
      |str=>rw[hx.str,hy.str];exact⟨wQ w,by rw[DG];simp[kV,xO],by rw[DH];simp[kV,xO]⟩
      |slice e=>simp[Ty.comparable]at Km
      |unit=>simp[Ty.isAgg]at Dy
      |pair _ _=>simp[Ty.isAgg]at Dy
      |arr _ _=>simp[Ty.isAgg]at Dy
    obtain⟨hg,h2,h3⟩:=key
    rcases h1 with⟨rfl,hK⟩|⟨rfl,hK⟩
    ·exact aO (lI ho hg h2) (hn _ [] [] _ _ _ _ hK (.refl hc.mem) (.oZ _))
    ·exact aO (lI ho hg h3) (hn _ [] [] _ _ _ _ hK (.refl hc.mem) (.oZ _))
  ·cases h
 ·cases h
theorem Qg(hc:Core c σ a.tmps w M ν){u:UnOp}{t:TypeId}{x:Operand}(ho:o.op= .unOp u t x){K:fh α}
  (h:J8 u (σ.ρ x) (fun v=>K v [] [])=some r) (hn:dL c σ a o w M ν K r next):o.wp P a w next Q:=by
 have hx:=hc.ev x
 unfold J8 at h
 split at h
 ·rename_i k n XA
  rw[XA]at hx
  refine aO (qp ho (v:= .int k (k.wrap (0-n))) ?_) (hn _ [] [] _ _ _ _ h (.refl hc.mem) (by rw[xM];exact .mkInt _ _))
  rw[hx.int];simp[Op.unary,Op.intArith]
 ·rename_i k n XA
  rw[XA]at hx
  refine aO (qp ho (v:= .int k (ov .xor k (if k.signed then-1 else k.max) n)) ?_) (hn _ [] [] _ _ _ _ h (.refl hc.mem) (.mkInt _ _))
  rw[hx.int,oV];simp[Op.unary,Op.intBits]
 ·rename_i b XA
  rw[XA]at hx
  refine aO (qp ho (v:= .bool (!b)) ?_) (hn _ [] [] _ _ _ _ h (.refl hc.mem) (.oZ _))
  rw[hx.bool];simp[Op.unary]
 ·cases h
end VM
end
section
namespace VM
open Go
variable{P:Program}{E:Env}{o:Oper}{a:Act}{w:World}{M:Nat→Prop}{ν:Nat→Value}{σ:St}{c:Ctx}{α:Type}{r:α}{next:Act→World→Prop}{Q:Exit→Act→World→Prop}
theorem jE{args:Array Operand}{ts:Array TypeId}{t:TypeId}{x:Operand}{n:Nat}(ho:o.op= .call {callee:= .builtin .len,args,argTypes:=ts})(ha:args.toList=[x])(_ht:ts.toList.head?=some t)
  (hl: ∀ty,(Builtin.len_ ts ty #[a.eval x]).run P w= .ok (goInt n) w):(execOp a.eval o).run P w= .ok (.value (.int .i64 n)) w:=by
 obtain⟨cs,hr⟩:=mz (P:=P) (ρ:=a.eval) ho (w:=w)
 rw[hr]
 have:args.map a.eval= #[a.eval x]:=by apply Array.ext';simp[ha]
 rw[this]
 simp[builtin,hl,goInt]
theorem Qh{ts:Array TypeId}{t ty:TypeId}(ht:ts[0]? =some t)(hu:P.underlying t=some .string)(s:ByteArray):(Builtin.len_ ts ty #[.string s]).run P w= .ok (goInt s.size) w:=by
 simp[Builtin.len_,ht,run_underlying hu]
theorem Qi{ts:Array TypeId}{t ty e:TypeId}{n:Nat}(ht:ts[0]? =some t)(hu:P.underlying t=some (.array n e))(v:Value):(Builtin.len_ ts ty #[v]).run P w= .ok (goInt n) w:=by
 simp[Builtin.len_,ht,run_underlying hu]
theorem ra{ts:Array TypeId}{t ty e:TypeId}(ht:ts[0]? =some t)(hu:P.underlying t=some (.slice e))(ad:Option Addr)(n cp:Nat):(Builtin.len_ ts ty #[.slice ad n cp]).run P w= .ok (goInt n) w:=by
 simp[Builtin.len_,ht,run_underlying hu]
theorem ER.MC{e:Ty}{l:List e.den}{v:Value}(h:ER w M v (.own e l)): ∃ad cp,v= .slice ad l.length cp:=by
 simp only[ER]at h
 rcases h with⟨rfl,a,hv⟩|⟨b,cs,t,cap,hv,_⟩
 ·exact⟨a,0,hv⟩
 ·exact⟨_,cap,hv⟩
theorem ER.MD{e:Ty}{l:List e.den}{v:Value}(h:ER w M v (.jW e l)): ∃ad cp,v= .slice ad l.length cp:=by
 simp only[ER]at h
 have h:=h.1
 simp only[Rd,List.cons.injEq,and_true]at h
 obtain⟨a,cap,hv,_⟩:=h
 exact⟨a,cap,hv⟩
theorem XB(hE:EnvTy P E)(hc:Core c σ a.tmps w M ν){args:Array Operand}{ts:Array TypeId}{x:Operand}(ho:o.op= .call {callee:= .builtin .len,args,argTypes:=ts})(ha:args.toList=[x]){K:fh α}{τ:Ty}
  (ht:(ts.toList.head?).bind E.ty=some τ) (h:Dn τ (σ.ρ x) σ.H K=some r) (hn:dL c σ a o w M ν K r next):o.wp P a w next Q:=by
 obtain⟨t,qv,PI⟩:=Option.bind_eq_some_iff.1 ht
 have Qj:ts[0]? =some t:=by rw[←qv,←Array.getElem?_toList,List.head?_eq_getElem?]
 have hl:=hE.ty t τ PI
 have hv:=hc.ev x
 unfold Dn at h
 split at h
 ·rename_i e e' l hx
  obtain⟨_,hu,_⟩:=hl.slice
  rw[hx]at hv
  simp only[VR]at hv
  have hv:=V.slice.1 hv
  simp only[Rd,List.cons.injEq,and_true]at hv
  obtain⟨ad,cap,hv,_⟩:=hv
  refine aO (jE ho ha qv (n:=List.length l) fun ty=>by rw[hv];exact ra Qj hu _ _ _) (hn _ [] [] _ _ _ _ h (.refl hc.mem) (.mkInt _ _))
 ·rename_i n e n' e' l hx
  obtain⟨_,hu,_⟩:=hl.arr
  refine aO (jE ho ha qv (n:=n) fun ty=>Qi Qj hu _) (hn _ [] [] _ _ _ _ h (.refl hc.mem) (.mkInt _ _))
 ·rename_i s hx
  rw[hx]at hv
  refine aO (jE ho ha qv (n:=ByteArray.size s) fun ty=>by rw[hv.str];exact Qh Qj hl.str _) (hn _ [] [] _ _ _ _ h (.refl hc.mem) (.mkInt _ _))
 ·rename_i e hx
  obtain⟨_,hu,_⟩:=hl.slice
  rw[hx]at hv
  simp only[VR]at hv
  obtain⟨ad,hv⟩:=hv
  refine aO (jE ho ha qv (n:=0) fun ty=>by rw[hv];exact ra Qj hu _ _ _) (hn _ [] [] _ _ _ _ h (.refl hc.mem) (.mkInt _ _))
 ·rename_i e id hx
  obtain⟨_,hu,_⟩:=hl.slice
  rw[hx]at hv
  simp only[VR]at hv
  split at h
  ·rename_i e' l aR
   obtain⟨ad,cap,hh⟩:=(hc.mem.ix id _ aR).MC
   refine aO (jE ho ha qv (n:=l.length) fun ty=>by rw[hv.2,hh];exact ra Qj hu _ _ _) (hn _ [id] [] _ _ _ _ h (.refl hc.mem) (.mkInt _ _))
  ·rename_i e' l aR
   obtain⟨ad,cap,hh⟩:=(hc.mem.ix id _ aR).MD
   refine aO (jE ho ha qv (n:=l.length) fun ty=>by rw[hv.2,hh];exact ra Qj hu _ _ _) (hn _ [id] [] _ _ _ _ h (.refl hc.mem) (.mkInt _ _))
  ·cases h
 ·cases h
theorem DI{H:Nat→Option aQ}(up:Bool): ∀(xs:List aX) (x:aX) (v:Value) (vs:List Value) (K:aX→Option α),VR w M H ν x v→fv w M H ν xs vs→PF up x xs K=some r→
  ∃x' v',K x'=some r∧(vs.foldlM (if up then Builtin.max2 else Builtin.min2) v).run P w= .ok v' w∧VR w M H ν x' v'
 |[],x,v,[],K,hx,_,h=>⟨x,v,h,by simp,hx⟩
 |[],_,_,_::_,_,_,hs,_=>by simp[fv]at hs
 |_::_,_,_,[],_,_,hs,_=>by simp[fv]at hs
 |y::xs,x,v,u::vs,K,hx,hs,h=>by
  simp only[fv]at hs
  obtain⟨hy,hs⟩:=hs
  unfold PF at h
  obtain⟨k,m,e1,h1⟩:=iW h
  obtain⟨k',n,e2,h2⟩:=iW h1
  clear h h1
  split at h2
  ·rename_i hk
   subst hk
   rw[e1]at hx;rw[e2]at hy
   have hx:=hx.int
   have hy:=hy.int
   obtain⟨x',v',hK,cw,hV⟩:=DI up xs _ (.int k (cond up (mx m n) (mn m n))) vs K (.mkInt _ _) hs h2
   refine⟨x',v',hK,?_,hV⟩
   rw[List.foldlM_cons,Sem.run_bind]
   have:((if up then Builtin.max2 else Builtin.min2) v u).run P w= .ok (.int k (cond up (mx m n) (mn m n))) w:=by
    rw[hx,hy]
    cases up
    ·simp[Builtin.min2,Wc]
    ·simp[Builtin.max2,acg]
   rw[this]
   exact cw
  ·cases h2
theorem Wh(hc:Core c σ a.tmps w M ν)(up:Bool){args:Array Operand}{ts:Array TypeId}{x:Operand}{xs:List Operand}(ho:o.op= .call {callee:= .builtin (if up then .max else .min),args,argTypes:=ts})(ha:args.toList=x::xs){K:fh α}
  (h:PF up (σ.ρ x) (xs.map σ.ρ) (fun v=>K v [] [])=some r) (hn:dL c σ a o w M ν K r next):o.wp P a w next Q:=by
 obtain⟨x',v',hK,cw,hV⟩:=DI (P:=P) up (xs.map σ.ρ) (σ.ρ x) (a.eval x) (xs.map a.eval) _ (hc.ev x) (hc.evs xs) h
 refine aO ?_ (hn _ [] [] _ _ _ _ hK (.refl hc.mem) hV)
 obtain⟨cs,hr⟩:=mz (P:=P) (ρ:=a.eval) ho (w:=w)
 rw[hr]
 have hm:(args.map a.eval).toList=a.eval x::xs.map a.eval:=by simp[ha]
 cases up
 ·simp only[Bool.false_eq_true,if_false,builtin,Builtin.min_,hm,Sem.run_bind]at cw ⊢
  rw[cw];simp
 ·simp only[if_true,builtin,Builtin.max_,hm,Sem.run_bind]at cw ⊢
  rw[cw];simp
theorem z1{ρ:Operand→Value}{t:TypeId}{x i:Operand}(ho:o.op= .index t x i){k:IntKind}{n:Int}{s:ByteArray}
  (hu:P.underlying t=some .string) (hx:ρ x= .string s) (hi:ρ i= .int k n) (h0:0≤n) (h1:n<(s.size:Int)):
  (execOp ρ o).run P w= .ok (.value (.int .u8 ((s.data.getD n.toNat 0).toNat:Int))) w:=by
 have dE:n.toNat<s.size:=by omega
 have hs:s[n.toNat]? =some (s[n.toNat]'dE):=by simp[dE]
 have he:s[n.toNat]'dE=s.data.getD n.toNat 0:=by
  have qw:n.toNat<s.data.size:=dE
  rw[Array.getD,dif_pos qw];rfl
 simp[execOp,ho,hx,hi,Instr.index,asIntOf,run_underlying hu,h0,hs,he]
theorem ME(hE:EnvTy P E)(hc:Core c σ a.tmps w M ν){t:TypeId}{x i:Operand}(ho:o.op= .index t x i){K:fh α}{τ:Ty}(ht:E.ty t=some τ)
  (h:qm τ (σ.ρ x) (σ.ρ i) (fun v=>K v [] [])=some r) (hn:dL c σ a o w M ν K r next):o.wp P a w next Q:=by
 unfold qm at h
 obtain⟨k,n,hi,h2⟩:=iW h
 clear h
 have h:=h2
 clear h2
 have I6:=hc.ev i
 rw[hi]at I6
 have I6:=I6.int
 have hv:=hc.ev x
 have tC:=hE.ty t τ ht
 split at h
 ·rename_i len e υ l hx
  obtain⟨e',GJ,hle⟩:=tC.arr
  obtain⟨e1,h⟩:=a7 h
  subst e1
  obtain⟨jr,h⟩:=bA h
  obtain⟨h0,h1⟩:=o0 jr
  rw[hx]at hv
  simp only[VR]at hv
  obtain⟨cs,hu,hr⟩:=hv.agg rfl
  have dr:=hr.idx (i:=n.toNat) (by omega)
  refine aO (zV ho GJ hle hu I6 h0 h1 dr) (hn _ [] [] _ _ _ _ h (.refl hc.mem) ?_)
  simp only[VR]
  exact V.bE dr
 ·rename_i s hx
  obtain⟨jr,h⟩:=bA h
  obtain⟨h0,h1⟩:=o0 jr
  rw[hx]at hv
  refine aO (z1 ho tC.str hv.str I6 h0 h1) (hn _ [] [] _ _ _ _ h (.refl hc.mem) (.mkInt _ _))
 ·cases h
theorem jY(τ:Ty):τ.b7.length=τ.size:=(Rd.zero default (fun _=>False) τ).length
theorem wU{z:Array Value}{n i s:Nat}(hz:z.size=s)(hi:i*s+s≤n):((madeCells z n).toList.drop (i*s)).take s=z.toList:=by
 apply List.ext_getElem?
 intro j
 rw[List.getElem?_take]
 split
 ·rename_i hj
  rw[List.getElem?_drop,Array.getElem?_toList,Array.getElem?_toList]
  simp only[madeCells,Array.getElem?_map]
  rw[Array.getElem?_range,if_pos (by omega)]
  simp only[Option.map_some]
  have:(i*s+j)%z.size=j:=by rw[hz,Nat.mul_comm,Nat.mul_add_mod,Nat.mod_eq_of_lt hj]
  rw[this,Array.getElem?_eq_getElem (by omega),getElem!_pos z j (by omega)]
 ·rename_i hj
  rw[Array.getElem?_toList,Array.getElem?_eq_none (by omega)]
theorem mA.made(w:World)(M:Nat→Prop)(e:Ty){n l:Nat}(h:l*e.size≤n):mA w M e (madeCells (bE e e.b7).cells n).toList (List.replicate l e.zero):=by
 intro i hi
 rw[List.length_replicate]at hi
 have:=cR (s:=e.size) hi
 rw[wU (by rw[←Array.length_toList,ew,jY]) (by omega),ew,List.getElem_replicate]
 exact Rd.zero w M e
theorem vb{ρ:Operand→Value}{t:TypeId}{x y:Operand}(ho:o.op= .makeSlice t x y){v:Value}{w':World}(h:(Instr.makeSlice t (ρ x) (ρ y)).run P w= .ok v w'):(execOp ρ o).run P w= .ok (.value v) w':=by
 simp[execOp,ho,h]
theorem BU(hE:EnvTy P E)(hc:Core c σ a.tmps w M ν){t:TypeId}{x y:Operand}(ho:o.op= .makeSlice t x y){K:fh α}{e:Ty}(ht:E.ty t=some (.slice e)){id:Nat}
  (h:qi (σ.ρ x) (fun _ l=>qi (σ.ρ y) fun _ c=>cond (fP l c)
   (mu σ.H id (.own e []) (K (.ref id) [id] [(id,some (.own e (List.replicate l.toNat e.zero)))])) none)=some r) (hn:dL c σ a o w M ν K r next):o.wp P a w next Q:=by
 obtain⟨k,l,hx,h1⟩:=iW h
 obtain⟨k',n,hy,h2⟩:=iW h1
 clear h h1
 obtain⟨hk,h⟩:=bA h2
 obtain⟨aR,h⟩:=gR h
 rw[Av]at hk
 obtain⟨h0,h1,h3⟩:=of_decide_eq_true hk
 simp only[tp]at h3
 obtain⟨e',hu,hle⟩:=(hE.ty t _ ht).slice
 obtain⟨i,hi,hs,hz,hb⟩:=hle.base
 have BV:=hc.ev x
 have wS:=hc.ev y
 rw[hx]at BV;rw[hy]at wS
 have XC:(i.bytes:Int)*n≤281474976710656:=by
  have h4:(i.bytes:Int)≤2048:=by omega
  have:(i.bytes:Int)*n≤2048*n:=Int.mul_le_mul_of_nonneg_right h4 (by omega)
  omega
 have cw:=run_make (P:=P) w t e' i _ hu hi hz k k' l n h0 h1 XC (by omega)
 have hlen:(List.replicate l.toNat e.zero).length=l.toNat:=List.length_replicate
 have eH:=Tr.row hc.mem aR e' (e:=e) (cs:=madeCells (bE e e.b7).cells (n.toNat*i.size)) (l:=List.replicate l.toNat e.zero) (cap:=n.toNat) (by rw[hlen];omega) (by simp[maxLen];omega)
  (by rw[size_madeCells,hs]) (mA.made w M e (Nat.mul_le_mul (by omega) (by omega)))
 refine aO (vb ho (by rw[BV.int,wS.int];exact cw)) (hn _ _ _ _ _ _ _ h eH ?_)
 simp only[VR]
 exact⟨by show bn σ.H id _ id≠none;rw[ak];simp,by simp[ch]⟩
end VM
end
