/- A part of the proof of TearDrawn of layer 29: a machine that reads a function of the program as an equation between values. -/
import Derived.Test.YtocmlaipoebfeaaGreatVm1
set_option linter.all false
section
namespace VM
open Go
variable{P:Program}{E:Env}{o:Oper}{a:Act}{w:World}{M:Nat→Prop}{ν:Nat→Value}{σ:St}{c:Ctx}{α:Type}{r:α}{next:Act→World→Prop}{Q:Exit→Act→World→Prop}
theorem aK{v:Value}{w':World}(h:(execOp a.eval o).run P w= .ok (.value v) w')(hn:next (a.put o.dst v) w'):o.wp P a w next Q:=by
 unfold Oper.wp Oper.upon;rw[h];exact hn
theorem mF{w':World}(h:(execOp a.eval o).run P w= .ok .skip w')(hn:next (a.put o.dst undef) w'):o.wp P a w next Q:=by
 unfold Oper.wp Oper.upon;rw[h];exact hn
def dM(c:Ctx)(σ:St)(a:Act)(o:Oper)(w:World)(M:Nat→Prop)(ν:Nat→Value)(K:fm α)(r:α)(next:Act→World→Prop):Prop:=
 ∀v rd ups v' w' M' ν',K v rd ups=some r→Tr c σ.H w M ν (bS σ.H ups) w' M' ν'→VR w' M' (bS σ.H ups) ν' v v'→next (a.put o.dst v') w'
theorem Core.ev(h:Core c σ a.tmps w M ν)(x:Operand):VR w M σ.H ν (σ.ρ x) (a.eval x):=h.op a.defers x
theorem jn{x:aY}{k:IntKind→Int→Option α}(h:qq x k=some r): ∃(i:IntKind) (n:Int),x= .val (.int i) n∧k i n=some r:=by
 unfold qq at h
 split at h
 ·exact⟨_,_,rfl,h⟩
 ·cases h
theorem VR.int{H:Nat→Option aP}{k:IntKind}{n:Int}{v:Value}(h:VR w M H ν (.val (.int k) n) v):v= .int k n:=by
 simp only[VR,V,Ty.isAgg,Bool.false_eq_true,if_false,Rd,List.cons.injEq,and_true]at h;exact h
theorem VR.bool{H:Nat→Option aP}{b:Bool}{v:Value}(h:VR w M H ν (.val .bool b) v):v= .bool b:=by
 simp only[VR,V,Ty.isAgg,Bool.false_eq_true,if_false,Rd,List.cons.injEq,and_true]at h;exact h
theorem VR.str{H:Nat→Option aP}{b:ByteArray}{v:Value}(h:VR w M H ν (.val .str b) v):v= .string b:=by
 simp only[VR,V,Ty.isAgg,Bool.false_eq_true,if_false,Rd,List.cons.injEq,and_true]at h;exact h
theorem VR.mkInt{H:Nat→Option aP}(k:IntKind)(n:Int):VR w M H ν (.val (.int k) n) (.int k n):=by simp[VR,V,Ty.isAgg,Rd]
theorem VR.o6{H:Nat→Option aP}(b:Bool):VR w M H ν (.val .bool b) (.bool b):=by simp[VR,V,Ty.isAgg,Rd]
theorem VR.mkStr{H:Nat→Option aP}(b:ByteArray):VR w M H ν (.val .str b) (.string b):=by simp[VR,V,Ty.isAgg,Rd]
theorem JV(hc:Core c σ a.tmps w M ν){x:Operand}(ho:o.op= .move x∨o.op= .assign x){K:fm α}(h:K (σ.ρ x) [] []=some r)(hn:dM c σ a o w M ν K r next):o.wp P a w next Q:=by
 have hr:(execOp a.eval o).run P w= .ok (.value (a.eval x)) w:=by
  rcases ho with ho|ho
  ·simp[execOp,ho]
  ·simp[execOp,ho]
 exact aK hr (hn _ _ _ _ _ _ _ h (.refl hc.mem) (hc.ev x))
theorem Rb(hc:Core c σ a.tmps w M ν){x y z:Operand}(ho:o.op= .pick x y z){K:fm α}{t:Bool}(hx:σ.ρ x= .val .bool t)(h:cond t (K (σ.ρ y) [] []) (K (σ.ρ z) [] [])=some r)
  (hn:dM c σ a o w M ν K r next):o.wp P a w next Q:=by
 have hv:=hc.ev x
 rw[hx]at hv
 refine aK (Eu ho hv.bool) ?_
 cases t
 ·exact hn _ _ _ _ _ _ _ h (.refl hc.mem) (hc.ev z)
 ·exact hn _ _ _ _ _ _ _ h (.refl hc.mem) (hc.ev y)
theorem hZ{H:Nat→Option aP}{id:Nat}{e:aP}{K:Option α}(h:mz H id e K=some r):H id=none∧K=some r:=by
 unfold mz at h
 split at h
 ·rename_i h';exact⟨h',h⟩
 ·cases h
theorem VR.XG{H:Nat→Option aP}{id:Nat}{τ:Ty}{x:τ.den}{b:Nat}(aT:H id=some (.obj τ x))(hν:ν id= .pointer (some ⟨b,0,none⟩)):VR w M H ν (.fD id []) (.pointer (some ⟨b,0,none⟩)):=by
 simp only[VR]
 exact⟨_,aT,trivial,b,hν,rfl⟩
theorem VR.Np{H:Nat→Option aP}{id:Nat}{τ:Ty}{x:τ.den}{q:List Step}{j b:Nat}(aT:H id=some (.dP τ x q j))(hν:ν id= .pointer (some ⟨b,0,none⟩)):VR w M H ν (.fD id []) (.pointer (some ⟨b,0,none⟩)):=by
 simp only[VR]
 exact⟨_,aT,trivial,b,hν,rfl⟩
theorem eC(τ:Ty):(bF τ τ.b9).cells.toList=τ.b9:=AF (Rd.zero default (fun _=>False) τ)
theorem Ev: ∀{τ:Ty} {n:Nat} {a:Ty},Cu τ n=some a→ ∃l m,τ.b9=l++(a.b9++m)∧l.length=nB τ n:=by
 intro τ
 induction τ with
 |pair a b _ No=>
  intro n c h
  cases n with
  |zero=>cases h;exact⟨[],b.b9,rfl,rfl⟩
  |succ n=>
   obtain⟨l,m,h1,h2⟩:=No (n:=n) (a:=c) h
   refine⟨a.b9++l,m,by simp only[Ty.b9];rw[h1,List.append_assoc],?_⟩
   rw[List.length_append,h2,(Rd.zero default (fun _=>False) a).length];rfl
 |_=>intro n c h;simp[Cu]at h
theorem tO: ∀{p:List Step} {τ υ:Ty},ew p τ υ=true→ ∃l m,τ.b9=l++(υ.b9++m)∧l.length=bC p τ
 |[],τ,υ,h=>by
  have h:=of_decide_eq_true h
  subst h
  exact⟨[],[],by simp,rfl⟩
 | .gw n::p,τ,υ,h=>by
  unfold ew at h
  split at h
  ·rename_i a ha
   obtain⟨l,m,h1,h2⟩:=Ev ha
   obtain⟨l',m',h3,h4⟩:=tO h
   obtain⟨_,_,hf⟩:=oD ha τ.zero
   have:=hf.eq.1
   subst this
   refine⟨l++l',m'++m,by rw[h1,h3];simp,?_⟩
   rw[List.length_append,h2,h4];rfl
  ·cases h
 | .idx _::_,_,_,h=>by simp[ew]at h
theorem Bp{p:List Step}{τ e:Ty}(h:ew p τ (.slice e)=true):τ.b9[bC p τ]? =some (.slice none 0 0):=by
 obtain⟨l,m,h1,h2⟩:=tO h
 rw[h1,List.getElem?_append_right (by omega),h2,Nat.sub_self];rfl
theorem bB{b:Bool}{K:Option α}(h:cond b K none=some r):b=true∧K=some r:=by
 cases b
 ·cases h
 ·exact⟨rfl,h⟩
theorem JW{τ:Ty}{q:List Step}{e:Ty}(h:lkT E τ=some (q,e)):ew q τ (.slice e)=true:=by
 unfold lkT at h
 split at h
 ·rename_i υ q' e' _ _
  cases hd:decide (υ=τ)<;>rw[hd]at h
  ·cases h
  ·simp only[cond_true]at h
   cases hp:ew q' τ (.slice e')<;>rw[hp]at h
   ·cases h
   ·cases h;exact hp
 ·cases h
theorem oJ{τ:Ty}{id:Nat}{q:List Step}{e:Ty}(h:Cw E τ id=some (q,e)):ew q τ (.slice e)=true:=by
 unfold Cw at h
 split at h
 ·exact JW (bB h).2
 ·cases h
theorem yI{H:Nat→Option aP}{id:Nat}{τ:Ty}{x:τ.den}{q:List Step}{e:Ty}{K:fm α}(h:xi H id τ x q e K=some r):H id=none∧H (id+1)=none∧K (.fD id []) [id,id+1] [(id,some (.dP τ x q (id+1))),(id+1,some (.own e []))]=some r:=by
 unfold xi at h
 obtain⟨h1,h⟩:=hZ h
 obtain⟨h2,h⟩:=hZ h
 exact⟨h1,h2,h⟩
theorem K9{H:Nat→Option aP}{i j:Nat}{u v:Option aP}(h:i≠j):bm (bm H i u) j v=bm (bm H j v) i u:=by
 funext k
 by_cases hi:k=i
 ·subst hi;rw[an _ _ h,ak,ak]
 ·by_cases hj:k=j
  ·subst hj;rw[ak,an _ _ hi,ak]
  ·rw[an _ _ hj,an _ _ hi,an _ _ hi,an _ _ hj]
theorem sQ{H:Nat→Option aP}{i:Nat}{u v:Option aP}:bm (bm H i u) i v=bm H i v:=by
 funext k
 by_cases hi:k=i
 ·subst hi;rw[ak,ak]
 ·rw[an _ _ hi,an _ _ hi,an _ _ hi]
theorem Tr.Nq{H:Nat→Option aP}(h:Mem c H w M ν){id k:Nat}(hk:H k=none){τ:Ty}{x:τ.den}(aT:H id=some (.obj τ x)){b:Nat}{cs:Array Value}{t:TypeId}(hb:ν id= .pointer (some ⟨b,0,none⟩))(hg:w.heap[b]? =some (.cells cs t (0,0)))
  {q:List Step} {e:Ty} (hq:ew q τ (.slice e)=true) {ad:Option Addr} (hz:cs.toList[bC q τ]? =some (.slice ad 0 0)):
  Tr c H w M ν (bS H [(id,some (.dP τ x q k)),(k,some (.own e []))]) w M (cj ν k (.slice ad 0 0)):=by
 have g9:k≠id:=fun e=>by rw[e,aT]at hk;cases hk
 have h2:=Tr.nothing h hk e ad
 have hd2:bm H k (some (.own e [])) id=some (.obj τ x):=by rw[an _ _ (Ne.symm g9)];exact aT
 have hν:cj ν k (.slice ad 0 0) id= .pointer (some ⟨b,0,none⟩):=by unfold cj;rw[if_neg (Ne.symm g9)];exact hb
 have hν1:cj ν k (.slice ad 0 0) k= .slice ad 0 0:=by simp[cj]
 have he:=h2.mem.iO id _ hd2
 simp only[ER]at he
 obtain⟨b',cs',t',dw,hg',hM,gV⟩:=he
 rw[hν]at dw;cases dw
 rw[hg]at hg';cases hg'
 have h3:=Tr.K6 h2.mem hd2 trivial (e':= .dP τ x q k) trivial rfl (fun _ _=>by simp) (by
   rw[hν];simp only[ER]
   exact⟨_,cs,t,cs.toList,.slice ad 0 0,rfl,hg,hM,gV,(Ep hz).symm,rfl,e,hq⟩)
  (fun τ' x' p' j' hl=>by
   cases hl
   refine⟨by rw[ak];simp,_,hν,?_⟩
   rw[hν1,cell_of hg,←Array.getElem?_toList];exact hz)
 rw[K9 (i:=k) (j:=id) g9]at h3
 exact h2.trans h3
theorem Tr.xi{H:Nat→Option aP}(h:Mem c H w M ν){id:Nat}(aT:H id=none)(lf:H (id+1)=none)(t:TypeId){τ:Ty}{cs:Array Value}{x:τ.den}(hr:Rd w M τ cs.toList x){q:List Step}{e:Ty}(hq:ew q τ (.slice e)=true){ad:Option Addr}
  (hz:cs.toList[bC q τ]? =some (.slice ad 0 0)):
  ∃M' ν',Tr c H w M ν (bS H [(id,some (.dP τ x q (id+1))),(id+1,some (.own e []))]) (w.alloc (.cells cs t)) M' ν'∧ν' id= .pointer (some ⟨w.heap.size,0,none⟩):=by
 have h1:=Tr.var h aT t hr
 have h2:=Tr.Nq h1.mem (id:=id) (k:=id+1) (by rw[an _ _ (by omega)];exact lf) (ak _ _ _) (by simp[cj]) (yE w _) hq hz
 have e1:bS (bm H id (some (.obj τ x))) [(id,some (.dP τ x q (id+1))),(id+1,some (.own e []))]=bS H [(id,some (.dP τ x q (id+1))),(id+1,some (.own e []))]:=by
  show bm (bm (bm H id _) id _) (id+1) _=bm (bm H id _) (id+1) _
  rw[sQ]
 rw[e1]at h2
 exact⟨_,_,h1.trans h2,by simp[cj]⟩
theorem Nr(hE:EnvTy P E)(hc:Core c σ a.tmps w M ν){t:TypeId}(ho:o.op= .alloc t){K:fm α}{τ:Ty}(ht:E.ty t=some τ){id:Nat}
  (h:(match Cw E τ id with
   |some (q,e)=>xi σ.H id τ τ.zero q e K
   |none=>mz σ.H id (.obj τ τ.zero) (K (.fD id []) [id] [(id,some (.obj τ τ.zero))]))=some r) (hn:dM c σ a o w M ν K r next):o.wp P a w next Q:=by
 obtain⟨i,hi,hs,hz,_⟩:=(hE.ty t τ ht).base
 have hr:Rd w M τ (bF τ τ.b9).cells.toList τ.zero:=by rw[eC];exact Rd.zero w M τ
 split at h
 ·rename_i q e oG
  obtain⟨aT,lf,h⟩:=yI h
  obtain⟨M',ν',eP,hν⟩:=Tr.xi hc.mem aT lf t hr (oJ oG) (by rw[eC];exact Bp (oJ oG))
  refine aK (tM ho hi hz w) (hn _ _ _ _ _ M' ν' h eP ?_)
  exact VR.Np (by show bm _ (id+1) _ id=_;rw[an _ _ (by omega),ak]) hν
 ·obtain⟨aT,h⟩:=hZ h
  refine aK (tM ho hi hz w) (hn _ _ _ _ _ _ _ h (Tr.var hc.mem aT t hr) (VR.XG (ak _ _ _) (by simp[cj])))
theorem JX(hE:EnvTy P E)(hc:Core c σ a.tmps w M ν){t:TypeId}{x:Operand}(ho:o.op= .box t x){K:fm α}{τ:Ty}{id:Nat}
  (h:iC true (σ.ρ x) σ.H τ (fun y rd ups=>mz σ.H id (.obj τ y) (K (.fD id []) (id::rd) (ups++[(id,some (.obj τ y))])))=some r) (hn:dM c σ a o w M ν K r next):o.wp P a w next Q:=by
 obtain⟨y,rd,ups,M',h,eP,hV,hz,_⟩:=j1 (.refl _) hc.mem (hc.ev x) h
 obtain⟨aT,h⟩:=hZ h
 have YV:bS σ.H ups id=none:=hz.none aT
 have qB:=eP.trans (Tr.var eP.mem YV t hV.cells)
 refine aK (yF ho w) (hn _ _ _ _ _ (fun b=>M' b∨b=w.heap.size) (cj ν id (.pointer (some ⟨w.heap.size,0,none⟩))) h ?_ ?_)
 ·rw[dT];exact qB
 ·rw[dT];exact VR.XG (ak _ _ _) (by simp[cj])
theorem YW(hE:EnvTy P E)(hc:Core c σ a.tmps w M ν){t:TypeId}{x:Operand}(ho:o.op= .box t x){K:fm α}{τ:Ty}{id:Nat}
  (h:(match Cw E τ id,σ.ρ x with
   |some ([.gw m],e),.Cv υ y n=>cond (Nat.beq m n) (bZ υ τ y fun y=>xi σ.H id τ y [.gw m] e K) (iC true (σ.ρ x) σ.H τ (fun y rd ups=>mz σ.H id (.obj τ y) (K (.fD id []) (id::rd) (ups++[(id,some (.obj τ y))]))))
   |_,_=>iC true (σ.ρ x) σ.H τ (fun y rd ups=>mz σ.H id (.obj τ y) (K (.fD id []) (id::rd) (ups++[(id,some (.obj τ y))]))))=some r) (hn:dM c σ a o w M ν K r next):o.wp P a w next Q:=by
 split at h
 ·rename_i m e υ y n oG hx
  cases hb:Nat.beq m n
  ·rw[hb]at h
   exact JX hE hc ho h hn
  ·rw[hb]at h
   have yJ:=Nat.eq_of_beq_eq_true hb
   subst yJ
   simp only[cond_true]at h
   obtain⟨e1,h⟩:=a7 h
   subst e1
   obtain⟨aT,lf,h⟩:=yI h
   have hv:=hc.ev x
   rw[hx]at hv
   simp only[VR]at hv
   obtain⟨hV,cs,ad,hva,hz⟩:=hv
   have CE:(a.eval x).cells.toList=cs.toList:=by rw[hva];rfl
   obtain⟨M',ν',eP,hν⟩:=Tr.xi hc.mem aT lf t hV.cells (oJ oG) (ad:=ad) (by rw[CE];simpa [bC]using hz)
   refine aK (yF ho w) (hn _ _ _ _ _ M' ν' h eP ?_)
   exact VR.Np (by show bm _ (id+1) _ id=_;rw[an _ _ (by omega),ak]) hν
 ·exact JX hE hc ho h hn
theorem o7{i:Int}{n:Nat}(h:aJ i n=true):0≤i∧i<(n:Int):=by rw[Nj]at h;simpa using h
theorem iP{b:Bool}{K:Option α}(h:cond b none K=some r):b=false∧K=some r:=by
 cases b
 ·exact⟨rfl,h⟩
 ·cases h
theorem wy(hm:Mem c σ.H w M ν){x:aY}{u:Value}(hv:VR w M σ.H ν x u){K:(υ:Ty)→υ.den→List Nat→Option α}(h:gU x σ.H K=some r):
  ∃υ y rd,K υ y rd=some r∧ ∃b off cs,u= .pointer (some ⟨b,off,none⟩)∧At w b off cs∧Rd w M υ cs y:=by
 unfold gU at h
 split at h
 ·simp only[VR]at hv
  obtain⟨b,off,rfl,_,_,cs,ha,hr⟩:=hv
  exact⟨_,_,_,h,b,off,cs,rfl,ha,hr⟩
 ·rename_i id p
  simp only[VR]at hv
  obtain⟨e,he,jJ⟩:=hv
  have jb:=hm.iO id e he
  rw[he]at h
  cases e with
  |obj τ x=>
   obtain⟨υ,y,o',hp,hK⟩:=gf h
   simp only[AR]at jJ
   obtain⟨hi,b,hb,rfl⟩:=jJ
   simp only[ER]at jb
   obtain⟨b',cs,t,dw,hg,_,hr⟩:=jb
   rw[hb]at dw;cases dw
   have:=hp.eq.2
   subst this
   exact⟨υ,y,_,hK,b,_,_,rfl,At.of_block hg _ _,hp.rd hi hr⟩
  |own e l=>
   simp only[AR]at jJ
   obtain⟨i,q,rfl,AK,hi,b,n,cp,hb,rfl⟩:=jJ
   obtain⟨υ,y,o',hp,hK⟩:=gf h
   simp only[ER]at jb
   rcases jb with⟨rfl,_⟩|⟨b',cs,t,cap,dw,hg,_,M5,hl,Bn,hs,hr⟩
   ·simp at AK
   ·rw[hb]at dw;cases dw
    have:=hp.eq.2
    subst this
    have h1:=hr i AK
    rw[←gB l i e.zero AK]at h1
    have h2:=hp.rd hi h1
    have h3:=hp.bound hi
    rw[List.drop_take,List.drop_drop,List.take_take,Nat.min_eq_left (by omega)]at h2
    exact⟨υ,y,_,hK,b,_,_,rfl,At.of_block hg _ _,h2⟩
  |ku e l=>
   simp only[AR]at jJ
   obtain⟨i,q,rfl,AK,hi,b,n,cp,hb,rfl⟩:=jJ
   obtain⟨υ,y,o',hp,hK⟩:=gf h
   simp only[ER]at jb
   have gV:=jb.1
   simp only[Rd,List.cons.injEq,and_true]at gV
   obtain⟨a0,cap,ha0,_,hr⟩:=gV
   obtain⟨b',off,rfl,_,_,cs,lL,QJ⟩:=hr i AK
   rw[hb]at ha0;cases ha0
   have:=hp.eq.2
   subst this
   rw[Nat.zero_add]at lL
   have adQ:Rd w M e cs (List.getD l i e.zero):=by rw[gB l i e.zero AK];exact QJ
   have h2:=hp.rd hi adQ
   have h3:=hp.bound hi
   have Ra:=adQ.length
   refine⟨υ,y,_,hK,b,_,_,rfl,?_,h2⟩
   intro j v hj
   rw[List.getElem?_take]at hj
   split at hj
   ·rw[List.getElem?_drop]at hj
    have:=lL _ v hj
    rwa [←Nat.add_assoc]at this
   ·cases hj
  |dP _ _ _ _=>cases h
  |gone=>cases h
 ·cases h
theorem Mem.linked{H:Nat→Option aP}(hm:Mem c H w M ν){id:Nat}{τ:Ty}{x:τ.den}{q:List Step}{j:Nat}(aT:H id=some (.dP τ x q j)):
  ∃b cs t nQ e,ν id= .pointer (some ⟨b,0,none⟩)∧w.heap[b]? =some (.cells cs t (0,0))∧M b∧Rd w M τ nQ x∧cs.toList=dj nQ (bC q τ) [ν j]∧(ν j).oneCell'=true∧ew q τ (.slice e)=true∧bC q τ<nQ.length∧H j≠none:=by
 have jb:=hm.iO id _ aT
 simp only[ER]at jb
 obtain⟨b,cs,t,nQ,u,hb,hg,hM,hr,CE,h1,e,hq⟩:=jb
 obtain⟨hj,b',dw,JY⟩:=hm.dP id _ _ _ _ aT
 rw[hb]at dw;cases dw
 obtain⟨y,o,hp⟩:=oE hq x
 have dF:bC q τ<nQ.length:=by
  have:=hp.bound (gC hq).1
  have h2:=hp.eq.2
  have h3:=hr.length
  have:(Ty.slice e).size=1:=rfl
  omega
 have hu:u=ν j:=by
  rw[cell_of hg,←Array.getElem?_toList,CE,xZ dF]at JY
  exact Option.some.inj JY
 subst hu
 exact⟨b,cs,t,nQ,e,hb,hg,hM,hr,CE,h1,hq,dF,hj⟩
theorem sR{H:Nat→Option aP}(hm:Mem c H w M ν){id:Nat}{τ:Ty}{x:τ.den}{q:List Step}{j:Nat}(aT:H id=some (.dP τ x q j)){k:τ.den→fl→Option α}(h:xh j q τ x H k=some r):
  ∃z ups M',k z ups=some r∧Tr c H w M ν (bS H ups) w M' ν∧Fz H (bS H ups)∧((∃e l,H j=some (.ku e l)∧ups=[])∨ ∃e l,H j=some (.own e l)∧ups=[(j,some (.ku e l))])∧ ∃b cs t,ν id= .pointer (some ⟨b,0,none⟩)∧w.heap[b]? =some (.cells cs t (0,0))∧M' b∧Rd w M' τ cs.toList z:=by
 obtain⟨b,cs,t,nQ,e0,hb,hg,hM,hr,CE,h1,hq,dF,hj⟩:=hm.linked aT
 have Ns:=(gC hq).1
 unfold xh at h
 split at h
 ·rename_i e l AB
  obtain⟨z,hz,AL,AA,sq⟩:=kF h
  obtain⟨M',eP,hV,hM'⟩:=Tr.freeze hm AB
  refine⟨z,_,M',hz,eP,fun i=> ?_,.inr ⟨e,l,AB,rfl⟩,b,cs,t,hb,hg,?_,?_⟩
  ·by_cases hi:i=j
   ·subst hi;exact .inr ⟨e,l,AB,ak _ _ _⟩
   ·exact .inl (an _ _ hi)
  ·refine(hM' b).2 ⟨hM,fun hjb=> ?_⟩
   have g9:j≠id:=fun e=>by rw[e,aT]at AB;cases AB
   exact hm.vi j id _ _ b g9 AB trivial aT trivial hjb (by rw[hb];rfl)
  ·rw[CE]
   exact sq w M' nQ [ν j] Ns (hr.bs eP.bs) (V.slice.1 hV)
 ·rename_i e l AB
  obtain⟨z,hz,AL,AA,sq⟩:=kF h
  have jb:=hm.iO j _ AB
  simp only[ER]at jb
  refine⟨z,_,M,hz,.refl hm,.refl H,.inl ⟨e,l,AB,rfl⟩,b,cs,t,hb,hg,hM,?_⟩
  rw[CE]
  exact sq w M nQ [ν j] Ns hr jb.1
 ·cases h
theorem ada{τ υ:Ty}{t:TypeId}(hE:EnvTy P E)(ht:E.ty t=some τ)(h:ew ([]:List Step) υ τ=true):υ=τ:=of_decide_eq_true h
theorem Rd.YX{e:Ty}{v:Value}{cs:List Value}{l:List e.den}(h:Rd w M (.slice e) cs l): ∃a n cap,cs=[.slice a n cap]:=by
 simp only[Rd]at h
 obtain⟨a,cap,rfl,_⟩:=h
 exact⟨a,_,cap,rfl⟩
theorem AN{ρ:Operand→Value}{t:TypeId}{x:Operand}(ho:o.op= .load t x){τ:Ty}(h:gA P τ t)(ha:τ.isAgg=false){b off:Nat}{v:Value}(hx:ρ x= .pointer (some ⟨b,off,none⟩))(hc:w.cell? ⟨b,off,none⟩=some v):
  (execOp ρ o).run P w= .ok (.value v) w:=by
 have:(loadVar t ⟨b,off,none⟩).run P w= .ok v w:=by
  simp[loadVar,oH h,ha,load,Sem.run,hc]
 simp[execOp,ho,hx,Instr.loadAt,Instr.sureAddr,this]
theorem Ew(hE:EnvTy P E)(hc:Core c σ a.tmps w M ν){t:TypeId}{x:Operand}(ho:o.op= .load t x){K:fm α}{τ:Ty}(ht:E.ty t=some τ)
  (h:gU (σ.ρ x) σ.H (fun υ y rd=>bZ υ τ y fun z=>K (.val τ z) rd [])=some r) (hn:dM c σ a o w M ν K r next):o.wp P a w next Q:=by
 obtain⟨υ,y,rd,h,b,off,cs,hu,lL,hr⟩:=wy hc.mem (hc.ev x) h
 obtain⟨e,h⟩:=a7 h
 subst e
 refine aK (qz ho (hE.ty t _ ht) hu lL hr) (hn _ _ _ _ _ _ _ h (.refl hc.mem) ?_)
 simp only[VR]
 exact V.bF hr
theorem Rc(hE:EnvTy P E)(hc:Core c σ a.tmps w M ν){t:TypeId}{x:Operand}(ho:o.op= .load t x){K:fm α}{τ:Ty}(ht:E.ty t=some τ)
  (h:pW τ (σ.ρ x) σ.H K=some r) (hn:dM c σ a o w M ν K r next):o.wp P a w next Q:=by
 unfold pW at h
 simp only at h
 split at h
 ·rename_i id p hx
  split at h
  ·rename_i υ z q j aT
   have hv:=hc.ev x
   rw[hx]at hv
   simp only[VR]at hv
   obtain⟨e1,Ik,jJ⟩:=hv
   rw[aT]at Ik;cases Ik
   simp only[AR]at jJ
   obtain⟨hi,b,hb,hu⟩:=jJ
   obtain⟨b',cs,te,nQ,e0,dw,hg,hM,hr,CE,h1,hq,dF,hj⟩:=hc.mem.linked aT
   rw[hb]at dw;cases dw
   cases hp:Ef p q
   ·rw[hp]at h
    cases AH:si p q
    ·
     rw[AH]at h
     simp only[cond_false]at h
     obtain⟨υ',y,o',sr,h⟩:=gf h
     obtain⟨e2,h⟩:=a7 h
     subst e2
     have hap:=sr.apart hi hq AH
     have ho':=sr.eq.2
     subst ho'
     have AA:=sr.bound hi
     have hlen:=hr.length
     have gV:Rd w M υ' ((cs.toList.drop (bC p υ)).take υ'.size) y:=by
      rw[CE,CB (by simp only[List.length_singleton];omega) (by simp only[List.length_singleton];omega)]
      exact sr.rd hi hr
     refine aK (qz ho (hE.ty t _ ht) hu (At.of_block hg _ _) gV) (hn _ _ _ _ _ M ν h (.refl hc.mem) ?_)
     simp only[VR]
     exact V.bF gV
    ·
     rw[AH]at h
     simp only[cond_false,cond_true]at h
     obtain⟨z',ups,M',h,eP,_,_,b2,YY,t2,so,Nt,CF,D2⟩:=sR hc.mem aT h
     rw[hb]at so;cases so
     rw[hg]at Nt;cases Nt
     obtain⟨υ',y,o',sr,h⟩:=gf h
     obtain⟨e2,h⟩:=a7 h
     subst e2
     have ho':=sr.eq.2
     subst ho'
     have gV:=sr.rd hi D2
     refine aK (qz ho (hE.ty t _ ht) hu (At.of_block hg _ _) gV) (hn _ _ _ _ _ M' ν h eP ?_)
     simp only[VR]
     exact V.bF gV
   ·
    rw[hp]at h
    have:=vt hp
    subst this
    simp only[cond_true]at h
    obtain⟨hpq,hK⟩:=bB h
    have hτ:τ= .slice e0:=(gC hpq).2.symm.trans (gC hq).2
    subst hτ
    have JY:w.cell? ⟨b,bC p υ,none⟩=some (ν j):=by rw[cell_of hg,←Array.getElem?_toList,CE,xZ dF]
    refine aK (AN ho (hE.ty t _ ht) rfl hu JY) (hn _ _ _ _ _ M ν hK (.refl hc.mem) ?_)
    simp only[VR]
    exact⟨hj,trivial⟩
  ·exact Ew hE hc ho ht h hn
 ·exact Ew hE hc ho ht h hn
end VM
end
section
namespace VM
open Go
variable{P:Program}{E:Env}{o:Oper}{a:Act}{w:World}{M:Nat→Prop}{ν:Nat→Value}{σ:St}{c:Ctx}{α:Type}{r:α}{next:Act→World→Prop}{Q:Exit→Act→World→Prop}
theorem Fz.own{H H1:Nat→Option aP}(h:Fz H H1){i:Nat}{e:Ty}{l:List e.den}(hi:H i=some (.own e l)):H1 i=some (.own e l)∨H1 i=some (.ku e l):=by
 rcases h i with h'|⟨e',l',h1,h2⟩
 ·exact .inl (by rw[h',hi])
 ·rw[hi]at h1;cases h1;exact .inr h2
theorem La(hE:EnvTy P E)(hc:Core c σ a.tmps w M ν){t:TypeId}{x y:Operand}(ho:o.op= .store t x y){K:fm α}{τ:Ty}(ht:E.ty t=some τ)
  (h:iE τ (σ.ρ x) (σ.ρ y) σ.H K=some r) (hn:dM c σ a o w M ν K r next):o.wp P a w next Q:=by
 unfold iE at h
 split at h
 ·rename_i id p hx
  obtain⟨z,rd,ups,M',h,eP,hV,hz,gV⟩:=j1 (.refl _) hc.mem (hc.ev y) h
  have hv:=hc.ev x
  rw[hx]at hv
  have YZ:=VR.bs eP.bs eP.goes hv
  have tP:=hE.ty t τ ht
  have D3:=hV.cells.length
  rw[Array.length_toList]at D3
  split at h
  ·rename_i υ x0 aT
   have lf:=hz.obj aT
   obtain⟨x1,hK,AL,AA,sq⟩:=kF h
   simp only[VR]at YZ
   obtain⟨e1,Ik,jJ⟩:=YZ
   rw[lf]at Ik;cases Ik
   simp only[AR]at jJ
   obtain⟨hi,b,hb,hu⟩:=jJ
   have jb:=eP.mem.iO id _ lf
   simp only[ER]at jb
   obtain⟨b',cs,te,dw,hg,hM,hr⟩:=jb
   rw[hb]at dw;cases dw
   have AA:=AA hi
   have Ra:=hr.length
   rw[Array.length_toList]at Ra
   have cA:=jm (P:=P) ho tP hu hg D3 (by omega) hV.cells.kv
   rw[Array.length_toList]at cA
   have qB:Tr c (bS σ.H ups) w M' ν (bm (bS σ.H ups) id (some (.obj υ x1))) (w.setRow b (dj cs.toList (bC p υ) (a.eval y).cells.toList).toArray) M' ν:=by
    refine Tr.write (e':= .obj υ x1) eP.mem lf trivial trivial rfl (by rw[hb];rfl) hg fun HN hk vw=> ?_
    simp only[ER]
    refine⟨b,_,te,hb,setRow_heap w b cs _ te _ hg,vw,?_⟩
    exact(sq w M' cs.toList _ hi hr hV.cells).bs hk
   refine mF cA ?_
   refine hn _ _ _ _ _ M' ν hK ?_ (by simp[VR])
   rw[dT]
   have:=eP.trans qB
   unfold dj at this
   rw[Array.length_toList]at this
   exact this
  ·rename_i e l aT
   split at h
   ·rename_i i q h0
    obtain⟨xp,h⟩:=iP h
    have lf:bS σ.H ups id=some (.own e l):=by rw[gV id xp];exact aT
    obtain⟨y1,hK,AL,AA,sq⟩:=kF h
    simp only[VR]at YZ
    obtain⟨e1,Ik,jJ⟩:=YZ
    rw[lf]at Ik;cases Ik
    simp only[AR]at jJ
    obtain⟨i',q',hpq,AK,hi,b,n,cp,hb,hu⟩:=jJ
    cases hpq
    have jb:=eP.mem.iO id _ lf
    simp only[ER]at jb
    rcases jb with⟨rfl,_⟩|⟨b',cs,te,cap,dw,hg,hM,M5,hl,Bn,hs,hr⟩
    ·simp at AK
    ·rw[hb]at dw;cases dw
     have AA:=AA hi
     have oF:=cS (s:=e.size) AK
     have tL:l.length*e.size≤cp*e.size:=Nat.mul_le_mul_right _ hl
     have cA:=jm (P:=P) ho tP hu hg D3 (by omega) hV.cells.kv
     rw[Array.length_toList]at cA
     have hri:=hr i AK
     rw[←gB l i e.zero AK]at hri
     have nD:=sq w M' _ _ hi hri hV.cells
     have hch:((cs.toList.drop (i*e.size)).take e.size).length=e.size:=hri.length
     have Re:dj cs.toList (i*e.size) (dj ((cs.toList.drop (i*e.size)).take e.size) (bC q e) (a.eval y).cells.toList)=dj cs.toList (i*e.size+bC q e) (a.eval y).cells.toList:=by
      have QI:=nD.length
      have e1:cs.toList=cs.toList.take (i*e.size)++(((cs.toList.drop (i*e.size)).take e.size)++cs.toList.drop (i*e.size+e.size)):=by
       rw[←List.drop_drop,List.take_append_drop,List.take_append_drop]
      have dF:(cs.toList.take (i*e.size)).length=i*e.size:=by rw[List.length_take,Array.length_toList];omega
      conv=>rhs;rw[e1]
      rw[show i*e.size+bC q e=(cs.toList.take (i*e.size)).length+bC q e from by rw[dF],ry,tJ (by rw[hch,Array.length_toList];omega)]
      generalize dj ((cs.toList.drop (i*e.size)).take e.size) (bC q e) (a.eval y).cells.toList=m at QI ⊢
      unfold dj
      rw[QI,List.append_assoc]
     have qB:Tr c (bS σ.H ups) w M' ν (bm (bS σ.H ups) id (some (.own e (List.set l i y1)))) (w.setRow b (dj cs.toList (i*e.size+bC q e) (a.eval y).cells.toList).toArray) M' ν:=by
      refine Tr.write (e':= .own e (List.set l i y1)) eP.mem lf trivial trivial ⟨rfl,by rw[List.length_set]⟩ (by rw[hb];simp[ej];omega) hg fun HN hk vw=> ?_
      simp only[ER]
      refine .inr ⟨b,_,te,cp,by rw[List.length_set];exact hb,setRow_heap w b cs _ te _ hg,vw,M5,by rw[List.length_set];exact hl,Bn,?_,?_⟩
      ·rw[←Re,List.size_toArray,ec (by rw[nD.length,Array.length_toList];omega),Array.length_toList];exact hs
      ·have h9:cs.toList.length=cp*e.size:=by rw[Array.length_toList,hs]
       have h10:=mE.set (w:=w) (M:=M') (cs:=cs.toList) (l:=l) hr (by rw[h9];exact tL) AK nD
       rw[Re]at h10
       exact fun j hj=>(h10 j hj).bs hk
     refine mF cA ?_
     refine hn _ _ _ _ _ M' ν hK ?_ (by simp[VR])
     rw[dT]
     have:=eP.trans qB
     unfold dj at this
     rw[Array.length_toList]at this
     exact this
   ·cases h
  ·cases h
 ·cases h
theorem Fz.dP{H H1:Nat→Option aP}(h:Fz H H1){i:Nat}{τ:Ty}{x:τ.den}{p:List Step}{j:Nat}(hi:H i=some (.dP τ x p j)):H1 i=some (.dP τ x p j):=by
 rcases h i with h'|⟨e',l',h1,h2⟩
 ·rw[h',hi]
 ·rw[hi]at h1;cases h1
theorem sS{β:Type}{l a:List β}{o:Nat}(hl:o+a.length≤l.length)(i:Nat):(dj l o a)[i]? =if o≤i∧i<o+a.length then a[i-o]? else l[i]? :=by
 unfold dj
 by_cases h1:i<o
 ·rw[if_neg (by omega),List.append_assoc,List.getElem?_append_left (by simp;omega),List.getElem?_take,if_pos h1]
 ·by_cases h2:i<o+a.length
  ·rw[if_pos (by omega),List.getElem?_append_left (by simp;omega),List.getElem?_append_right (by simp;omega)]
   simp[Nat.min_eq_left (show o≤l.length by omega)]
  ·rw[if_neg (by omega),List.getElem?_append_right (by simp;omega)]
   simp only[List.length_append,List.length_take,Nat.min_eq_left (show o≤l.length by omega),List.getElem?_drop]
   congr 1;omega
theorem Ex{β:Type}{l a b:List β}{o o':Nat}(h:o'≤o∧o+a.length≤o'+b.length)(h1:o+a.length≤l.length)(h2:o'+b.length≤l.length):dj (dj l o a) o' b=dj l o' b:=by
 have l1:=ec (a:=l) (o:=o) (new:=a) h1
 apply List.ext_getElem?
 intro i
 rw[sS (by omega),sS (by omega),sS (by omega)]
 by_cases c1:o'≤i∧i<o'+b.length
 ·rw[if_pos c1,if_pos c1]
 ·rw[if_neg c1,if_neg c1,if_neg (by omega)]
theorem Bq{β:Type}{l:List β}{o:Nat}{u v:β}(h:o<l.length):dj (dj l o [u]) o [v]=dj l o [v]:=
 Ex (by simp) (by simp;omega) (by simp;omega)
theorem Nu{β:Type}{l a b:List β}{o o':Nat}(h:o+a.length≤o'∨o'+b.length≤o)(h1:o+a.length≤l.length)(h2:o'+b.length≤l.length):dj (dj l o a) o' b=dj (dj l o' b) o a:=by
 have l1:=ec (a:=l) (o:=o) (new:=a) h1
 have l2:=ec (a:=l) (o:=o') (new:=b) h2
 apply List.ext_getElem?
 intro i
 rw[sS (by omega),sS (by omega),sS (by omega),sS (by omega)]
 by_cases c1:o'≤i∧i<o'+b.length
 ·rw[if_pos c1,if_neg (by omega),if_pos c1]
 ·rw[if_neg c1]
  by_cases c2:o≤i∧i<o+a.length
  ·rw[if_pos c2,if_pos c2]
  ·rw[if_neg c2,if_neg c2,if_neg c1]
theorem Ey{m:(υ:Ty)→υ.den→(υ.den→Option α)→Option α}: ∀{τ:Ty} {x:τ.den} {n:Nat} {k:τ.den→Option α},jj τ x n m k=some r→ ∃υ y o k',xj τ x n υ y o∧m υ y k'=some r:=fun h=>by
 obtain⟨υ,y,o,k',h1,h2,_⟩:=nT h
 exact⟨υ,y,o,k',h1,h2⟩
theorem yK{υ:Ty}{u:υ.den}: ∀{p:List Step} {τ:Ty} {x:τ.den} {k:τ.den→Option α},qb υ u p τ x k=some r→ ∃y o,CA p τ x υ y o
 |[],τ,x,k,h=>by
  obtain⟨e,_⟩:=a7 (h:bZ υ τ u k=some r)
  subst e
  exact⟨x,0,.nil x⟩
 | .gw n::p,τ,x,k,h=>by
  obtain⟨υ',y,o,k',hf,hm⟩:=Ey (h:jj τ x n _ k=some r)
  obtain⟨y',o',hp⟩:=yK (k:=k') hm
  exact⟨y',_,.gw hf hp⟩
 | .idx i::p,τ,x,k,h=>by
  cases τ with
  |arr n e=>
   obtain⟨y',o',hp⟩:=yK (p:=p) (τ:=e) (x:=List.getD x i e.zero) (k:=fun z=>k (List.set x i z)) h
   exact⟨y',_,.idx hp⟩
  |_=>simp[qb,xV]at h
theorem Br: ∀{p q:List Step} {τ e:Ty},si p q=true→ew q τ (.slice e)=true→bC p τ≤bC q τ∧bC q τ+1≤bC p τ+(AG p τ).size
 |[],q,τ,e,_,hq=>by
  obtain⟨_,_,sr⟩:=oE hq τ.zero
  have:=sr.bound (gC hq).1
  have h2:=sr.eq.2
  have:(Ty.slice e).size=1:=rfl
  simp only[bC,AG]
  omega
 | .gw a::p,.gw b::q,τ,e,hp,hq=>by
  simp only[si,Bool.and_eq_true]at hp
  have:=Nat.eq_of_beq_eq_true hp.1
  subst this
  unfold ew at hq
  split at hq
  ·rename_i c hc
   obtain⟨_,_,hf⟩:=oD hc τ.zero
   have:=hf.eq.1
   subst this
   have:=Br hp.2 hq
   simp only[bC,AG]
   omega
  ·cases hq
 | .gw _::_,[],_,_,hp,_| .gw _::_,.idx _::_,_,_,hp,_| .idx _::_,_,_,_,hp,_=>by simp[si]at hp
theorem ER.Lb{H:Nat→Option aP}(hm:Mem c H w M ν){k:Nat}{e:Ty}{l:List e.den}(hk:H k=some (.own e l)): ∃ad cp,ν k= .slice ad l.length cp:=by
 have:=hm.iO k _ hk
 simp only[ER]at this
 rcases this with⟨rfl,a,hv⟩|⟨b,cs,t,cap,hv,_⟩
 ·exact⟨a,0,hv⟩
 ·exact⟨_,cap,hv⟩
theorem yL(hE:EnvTy P E)(hc:Core c σ a.tmps w M ν){t:TypeId}{x y:Operand}(ho:o.op= .store t x y){K:fm α}{τ:Ty}(ht:E.ty t=some τ){id k:Nat}{q:List Step}{e:Ty}{υ:Ty}{z:υ.den}
  (hx:σ.ρ x= .fD id q) (hy:σ.ρ y= .ref k) {en:aP} (aT:σ.H id=some en) (hen:en.mut) (Bs:en.hO (.dP υ z q k)) (hq:ew q υ (.slice e)=true)
  (lN: ∃b cs te nQ u,ν id= .pointer (some ⟨b,0,none⟩)∧w.heap[b]? =some (.cells cs te (0,0))∧Rd w M υ nQ z∧cs.toList=dj nQ (bC q υ) [u])
  (h:wq τ id k e q υ z σ.H K=some r) (hn:dM c σ a o w M ν K r next):o.wp P a w next Q:=by
 unfold wq at h
 split at h
 ·rename_i e' l hk
  obtain⟨e1,h1⟩:=dG h
  clear h
  subst e1
  obtain⟨e2,h2⟩:=dG h1
  clear h1
  subst e2
  obtain⟨z',hK,AL,AA,sq⟩:=kF h2
  obtain⟨b,cs,te,nQ,u,hb,hg,hr,CE⟩:=lN
  have Ns:=(gC hq).1
  obtain⟨ad,cp,hνk⟩:=ER.Lb hc.mem hk
  have xq:=hc.ev y
  rw[hy]at xq
  simp only[VR]at xq
  have xq:=xq.2
  have AA:=AA Ns
  have hlen:=hr.length
  have HR:(Ty.slice e').size=1:=rfl
  have dF:bC q υ<nQ.length:=by omega
  have D3:cs.toList.length=nQ.length:=by rw[CE];exact ec (by simp;omega)
  have hv:=hc.ev x
  rw[hx]at hv
  simp only[VR]at hv
  obtain⟨e3,he3,jJ⟩:=hv
  rw[aT]at he3;cases he3
  have jJ:=jJ.hO Bs
  simp only[AR]at jJ
  obtain⟨_,b',dw,hu⟩:=jJ
  rw[hb]at dw;cases dw
  have hyc:(a.eval y).cells.toList=[ν k]:=by rw[xq,hνk];rfl
  have nU:(a.eval y).cells.size=(Ty.slice e').size:=by rw[←Array.length_toList,hyc];rfl
  have cA:=jm (P:=P) ho (hE.ty t _ ht) hu hg nU (by rw[←Array.length_toList];omega) (by rw[hyc,hνk];simp[Value.oneCell'])
  have nD:(cs.toList.take (bC q υ)++(a.eval y).cells.toList++cs.toList.drop (bC q υ+(a.eval y).cells.toList.length))=dj nQ (bC q υ) [ν k]:=by
   rw[hyc]
   show dj cs.toList (bC q υ) [ν k]=_
   rw[CE,Bq dF]
  rw[nD]at cA
  have hrz:Rd w M υ (dj nQ (bC q υ) [.slice none 0 0]) z':=sq w M nQ [.slice none 0 0] Ns hr (Rd.zero w M (.slice e'))
  have eP:Tr c σ.H w M ν (bm σ.H id (some (.dP υ z' q k))) (w.setRow b (dj nQ (bC q υ) [ν k]).toArray) M ν:=by
   refine Tr.write (e':= .dP υ z' q k) hc.mem aT hen trivial (by cases en<;>simp only[aP.hO]at Bs ⊢ <;>exact Bs) (by rw[hb];rfl) hg (fun HN AO vw=> ?_) (fun τ' x' p' j' hl=> ?_)
   ·simp only[ER]
    refine⟨b,_,te,dj nQ (bC q υ) [.slice none 0 0],ν k,hb,setRow_heap w b cs _ te _ hg,vw,hrz.bs AO,?_,by rw[hνk];rfl,e',hq⟩
    rw[Bq dF]
   ·cases hl
    refine⟨by rw[hk];simp,b,hb,?_⟩
    rw[cell_of (setRow_heap w b cs _ te _ hg),←Array.getElem?_toList]
    show(dj nQ (bC q υ) [ν k])[bC q υ]? =_
    rw[xZ dF]
  exact mF cA (hn _ _ _ _ _ M ν hK eP (by simp[VR]))
 ·cases h
theorem yM(hE:EnvTy P E)(hc:Core c σ a.tmps w M ν){t:TypeId}{x y:Operand}(ho:o.op= .store t x y){K:fm α}{τ:Ty}(ht:E.ty t=some τ)
  (h:gb E τ (σ.ρ x) (σ.ρ y) σ.H K=some r) (hn:dM c σ a o w M ν K r next):o.wp P a w next Q:=by
 have hold:iE τ (σ.ρ x) (σ.ρ y) σ.H K=some r→o.wp P a w next Q:=fun h=>La hE hc ho ht h hn
 unfold gb at h
 simp only at h
 split at h
 ·rename_i id p hx
  have nC:=hx
  split at h
  ·rename_i υ z aT
   split at h
   ·rename_i q e k oG hy
    cases hp:Ef p q
    ·rw[hp]at h;exact hold h
    ·rw[hp]at h
     simp only[cond_true]at h
     have:=vt hp
     subst this
     have hq:=oJ oG
     have jb:=hc.mem.iO id _ aT
     simp only[ER]at jb
     obtain⟨b,cs,te,hb,hg,hM,hr⟩:=jb
     have dF:bC p υ<cs.toList.length:=by
      obtain⟨_,_,sr⟩:=oE hq z
      have:=sr.bound (gC hq).1
      have h2:=sr.eq.2
      have:=hr.length
      have:(Ty.slice e).size=1:=rfl
      omega
     refine yL hE hc ho ht hx hy aT trivial rfl hq ⟨b,cs,te,cs.toList,cs.toList[bC p υ],hb,hg,hr,?_⟩ h hn
     exact(Ep (List.getElem?_eq_getElem dF)).symm
   ·exact hold h
  ·rename_i υ z q j aT
   obtain⟨b,cs,te,nQ,e0,hb,hg,hM,hr,CE,h1,hq,dF,hj⟩:=hc.mem.linked aT
   have tQ:iC true (σ.ρ y) σ.H τ (fun y rd ups=>qb τ y p υ z fun z=>K .any (id::rd) (ups++[(id,some (cond (si p q) (.obj υ z) (.dP υ z q j)))]))=some r→o.wp P a w next Q:=by
    intro h
    obtain⟨u,rd,ups,M',h,eP,hV,hz,gV⟩:=j1 (.refl _) hc.mem (hc.ev y) h
    have lf:=hz.dP aT
    have hv:=hc.ev x
    rw[hx]at hv
    have YZ:=VR.bs eP.bs eP.goes hv
    simp only[VR]at YZ
    obtain⟨e1,Ik,jJ⟩:=YZ
    rw[lf]at Ik;cases Ik
    simp only[AR]at jJ
    obtain⟨hi,b1,jI,hu⟩:=jJ
    rw[hb]at jI;cases jI
    obtain⟨b2,YY,te2,cs3,e3,so,Nt,CF,D2,Rf,h12,hq2,adW,hj2⟩:=eP.mem.linked lf
    rw[hb]at so;cases so
    rw[hg]at Nt;cases Nt
    obtain⟨z',hK,AL,AA,sq⟩:=kF h
    have AA:=AA hi
    have Ra:=D2.length
    have D3:cs.toList.length=cs3.length:=by rw[Rf];exact ec (by simp;omega)
    have hcy:=hV.cells.length
    rw[Array.length_toList]at hcy
    have aqs:(a.eval y).cells.toList.length=τ.size:=by rw[Array.length_toList];exact hcy
    have cA:=jm (P:=P) ho (hE.ty t _ ht) hu hg hcy (by rw[←Array.length_toList];omega) hV.cells.kv
    have Nv:cs.toList.take (bC p υ)++(a.eval y).cells.toList++cs.toList.drop (bC p υ+(a.eval y).cells.toList.length)=dj cs.toList (bC p υ) (a.eval y).cells.toList:=rfl
    rw[Nv]at cA
    have hzr:=sq w M' cs3 _ hi D2 hV.cells
    have fin: ∀e',e'.mut→aP.hO (.dP υ z q j) e'→K .any (id::rd) (ups++[(id,some e')])=some r→(∀HN,di w M' (w.setRow b (dj cs.toList (bC p υ) (a.eval y).cells.toList).toArray) HN→HN b→ER (w.setRow b (dj cs.toList (bC p υ) (a.eval y).cells.toList).toArray) HN (ν id) e')→
      (∀τ' x' p' j',e'= .dP τ' x' p' j'→(bS σ.H ups) j'≠none∧ ∃b',ν id= .pointer (some ⟨b',0,none⟩)∧(w.setRow b (dj cs.toList (bC p υ) (a.eval y).cells.toList).toArray).cell? ⟨b',bC p' τ',none⟩=some (ν j'))→o.wp P a w next Q:=by
     intro e' gD D1 hK K5 oG
     have qB:=Tr.write (e':=e') eP.mem lf trivial gD D1 (by rw[hb];rfl) hg K5 oG
     refine mF cA (hn _ _ _ _ _ M' ν hK ?_ (by simp[VR]))
     rw[dT]
     exact eP.trans qB
    cases AH:si p q
    ·rw[AH]at hK
     simp only[cond_false]at hK
     obtain⟨yy,oo,sr⟩: ∃y o,CA p υ z τ y o:=yK h
     have hap:=sr.apart hi hq AH
     have hoo:=sr.eq.2
     subst hoo
     have XH:dj cs.toList (bC p υ) (a.eval y).cells.toList=dj (dj cs3 (bC p υ) (a.eval y).cells.toList) (bC q υ) [ν j]:=by
      rw[Rf]
      exact Nu (by simp only[List.length_singleton];omega) (by simp only[List.length_singleton];omega) (by omega)
     have QI:=ec (a:=cs3) (o:=bC p υ) (new:=(a.eval y).cells.toList) (by omega)
     refine fin (.dP υ z' q j) trivial rfl hK (fun HN hk vw=> ?_) (fun τ' x' p' j' hl=> ?_)
     ·simp only[ER]
      exact⟨b,_,te,_,ν j,hb,setRow_heap w b cs _ te _ hg,vw,hzr.bs hk,XH,h1,e0,hq⟩
     ·cases hl
      refine⟨hj2,b,hb,?_⟩
      rw[cell_of (setRow_heap w b cs _ te _ hg),←Array.getElem?_toList]
      show(dj cs.toList (bC p υ) (a.eval y).cells.toList)[bC q υ]? =_
      rw[XH,xZ (by omega)]
    ·rw[AH]at hK
     simp only[cond_true]at hK
     refine fin (.obj υ z') trivial rfl hK (fun HN hk vw=> ?_) (fun τ' x' p' j' hl=>by cases hl)
     simp only[ER]
     refine⟨b,_,te,hb,setRow_heap w b cs _ te _ hg,vw,?_⟩
     show Rd _ _ υ (dj cs.toList (bC p υ) (a.eval y).cells.toList) z'
     have jZ:=Br AH hq
     rw[AL]at jZ
     have ho:dj cs.toList (bC p υ) (a.eval y).cells.toList=dj cs3 (bC p υ) (a.eval y).cells.toList:=by
      rw[Rf]
      exact Ex (by simp only[List.length_singleton];omega) (by simp only[List.length_singleton];omega) (by omega)
     have h9:=hzr.bs hk
     rw[←ho]at h9
     exact h9
   split at h
   ·rename_i q' e k oG hy
    cases hp:(Ef p q&&Ef q q')
    ·rw[hp]at h;exact tQ h
    ·rw[hp]at h
     simp only[cond_true]at h
     rw[Bool.and_eq_true]at hp
     have:=vt hp.1
     subst this
     have:=vt hp.2
     subst this
     refine yL hE hc ho ht hx hy aT trivial rfl (oJ oG) ⟨b,cs,te,nQ,ν j,hb,hg,hr,CE⟩ h hn
   ·exact tQ h
  ·exact hold h
 ·exact hold h
theorem Lc(hE:EnvTy P E)(hc:Core c σ a.tmps w M ν){t:TypeId}{x y:Operand}(ho:o.op= .store t x y){K:fm α}{τ:Ty}(ht:E.ty t=some τ)
  (h:oc E τ (σ.ρ x) (σ.ρ y) σ.H K=some r) (hn:dM c σ a o w M ν K r next):o.wp P a w next Q:=by
 unfold oc at h
 split at h
 ·rename_i id υ z n hx hy
  split at h
  ·rename_i m e oG
   cases yJ:Nat.beq m n
   ·rw[yJ]at h
    simp only[cond_false]at h
    exact yM hE hc ho ht h hn
   ·rw[yJ]at h
    simp only[cond_true]at h
    have yJ:=Nat.eq_of_beq_eq_true yJ
    subst yJ
    obtain⟨e1,h1⟩:=dG h
    clear h
    subst e1
    have hq:=oJ oG
    have xq:=hc.ev y
    rw[hy]at xq
    simp only[VR]at xq
    obtain⟨hV,cs,ad,hva,hz⟩:=xq
    have hcy:(a.eval y).cells=cs:=by rw[hva];rfl
    obtain⟨en,aT,hen,hK⟩: ∃en:aP,σ.H id=some en∧(∃z0,en= .obj τ z0∨ ∃q j,en= .dP τ z0 q j)∧σ.H (id+2)=none∧K .any [id,id+2] [(id,some (.dP τ z [.gw m] (id+2))),(id+2,some (.own e []))]=some r:=by
     unfold jl at h1
     split at h1
     ·rename_i υ z0 aT
      obtain⟨e2,h2⟩:=dG h1
      clear h1
      subst e2
      obtain⟨h3,h4⟩:=hZ h2
      exact⟨_,aT,⟨z0,.inl rfl⟩,h3,h4⟩
     ·rename_i υ z0 q j aT
      obtain⟨e2,h2⟩:=dG h1
      clear h1
      subst e2
      obtain⟨h3,h4⟩:=hZ h2
      exact⟨_,aT,⟨z0,.inr ⟨q,j,rfl⟩⟩,h3,h4⟩
     ·cases h1
     ·cases h1
     ·cases h1
    obtain⟨hk,hK⟩:=hK
    have ajw:en.mut:=by rcases hen with⟨z0,rfl|⟨q,j,rfl⟩⟩<;>trivial
    have Bs:en.hO (.obj τ z):=by rcases hen with⟨z0,rfl|⟨q,j,rfl⟩⟩<;>rfl
    obtain⟨b,nQ,te,hb,hg,nU⟩: ∃b nQ te,ν id= .pointer (some ⟨b,0,none⟩)∧w.heap[b]? =some (.cells nQ te (0,0))∧nQ.toList.length=τ.size:=by
     rcases hen with⟨z0,rfl|⟨q,j,rfl⟩⟩
     ·have:=hc.mem.iO id _ aT
      simp only[ER]at this
      obtain⟨b,nQ,te,h2,h3,_,h5⟩:=this
      exact⟨b,nQ,te,h2,h3,h5.length⟩
     ·obtain⟨b,nQ,te,tA,_,h2,h3,_,h5,h6,_,_,h7,_⟩:=hc.mem.linked aT
      refine⟨b,nQ,te,h2,h3,?_⟩
      rw[h6,ec (by simp only[List.length_singleton];omega),h5.length]
    have hv:=hc.ev x
    rw[hx]at hv
    simp only[VR]at hv
    obtain⟨e3,he3,jJ⟩:=hv
    rw[aT]at he3;cases he3
    have jJ:=jJ.hO Bs
    simp only[AR]at jJ
    obtain⟨_,b',dw,hu⟩:=jJ
    rw[hb]at dw;cases dw
    have D3:=hV.cells.length
    have cA:=jm (P:=P) ho (hE.ty t _ ht) hu hg (by rw[←Array.length_toList];exact D3) (by rw[←Array.length_toList,nU];simp[bC]) hV.cells.kv
    have Nv:nQ.toList.take (bC [] τ)++(a.eval y).cells.toList++nQ.toList.drop (bC [] τ+(a.eval y).cells.toList.length)=(a.eval y).cells.toList:=by
     simp only[bC,List.take_zero,List.nil_append,Nat.zero_add]
     rw[List.drop_of_length_le (by omega),List.append_nil]
    rw[Nv]at cA
    have sq:=setRow_heap w b nQ (a.eval y).cells.toList.toArray te _ hg
    have eP:=Tr.write (e':= .obj τ z) (new:=(a.eval y).cells.toList.toArray) hc.mem aT ajw trivial Bs (by rw[hb];rfl) hg (fun HN AO vw=>by
     simp only[ER]
     exact⟨b,_,te,hb,sq,vw,hV.cells.bs AO⟩)
    have g9:id+2≠id:=by omega
    have qB:=Tr.Nq eP.mem (id:=id) (k:=id+2) (by rw[an _ _ g9];exact hk) (ak _ _ _) hb sq hq (ad:=ad) (by rw[hcy];simpa [bC]using hz)
    have e1:bS (bm σ.H id (some (.obj τ z))) [(id,some (.dP τ z [.gw m] (id+2))),(id+2,some (.own e []))]=bS σ.H [(id,some (.dP τ z [.gw m] (id+2))),(id+2,some (.own e []))]:=by
     show bm (bm (bm σ.H id _) id _) (id+2) _=bm (bm σ.H id _) (id+2) _
     rw[sQ]
    rw[e1]at qB
    exact mF cA (hn _ _ _ _ _ _ _ hK (eP.trans qB) (by simp[VR]))
  ·exact yM hE hc ho ht h hn
 ·exact yM hE hc ho ht h hn
end VM
end
section
namespace VM
open Go
variable{P:Program}{E:Env}{o:Oper}{a:Act}{w:World}{M:Nat→Prop}{ν:Nat→Value}{σ:St}{c:Ctx}{α:Type}{r:α}{next:Act→World→Prop}{Q:Exit→Act→World→Prop}
theorem nb{n:Nat}(h:Nat.beq n 0=false):n≠0:=by rw[←Bool.not_eq_true,Nat.beq_eq]at h;exact h
theorem At.sub{b off:Nat}{cs:List Value}(h:At w b off cs)(o n:Nat):At w b (off+o) ((cs.drop o).take n):=by
 intro j v hj
 rw[List.getElem?_take]at hj
 split at hj
 ·rw[List.getElem?_drop]at hj
  have:=h _ v hj
  rwa [←Nat.add_assoc]at this
 ·cases hj
def qC:aP→List Step→Option Ty
 | .obj τ _,p=>some (AG p τ)
 | .dP τ _ _ _,p=>some (AG p τ)
 | .own e _,.idx _::p| .ku e _,.idx _::p=>some (AG p e)
 |_,_=>none
theorem yN{id:Nat}{p:List Step}{H:Nat→Option aP}{k:Ty→Option α}(h:jl id p H k=some r): ∃e υ,H id=some e∧qC e p=some υ∧k υ=some r:=by
 unfold jl at h
 split at h
 ·rename_i τ x aT
  obtain⟨υ,y,o,hp,hk⟩:=gf h
  exact⟨_,υ,aT,by simp[qC,hp.eq.1],hk⟩
 ·rename_i τ x _ _ aT
  obtain⟨υ,y,o,hp,hk⟩:=gf h
  exact⟨_,υ,aT,by simp[qC,hp.eq.1],hk⟩
 ·rename_i e l aT
  split at h
  ·obtain⟨υ,y,o,hp,hk⟩:=gf h
   exact⟨_,υ,aT,by simp[qC,hp.eq.1],hk⟩
  ·cases h
 ·rename_i e l aT
  split at h
  ·obtain⟨υ,y,o,hp,hk⟩:=gf h
   exact⟨_,υ,aT,by simp[qC,hp.eq.1],hk⟩
  ·cases h
 ·cases h
theorem AR.step{v:Value}{p:List Step}{u:Value}{e:aP}{υ:Ty}(h:AR v p u e)(ht:qC e p=some υ)(s:Step)(hs:sl [s] υ):
  ∃b off,u= .pointer (some ⟨b,off,none⟩)∧AR v (p++[s]) (.pointer (some ⟨b,off+bC [s] υ,none⟩)) e:=by
 cases e with
 |obj τ x=>
  simp only[qC,Option.some.injEq]at ht
  simp only[AR]at h ⊢
  obtain⟨hi,b,hb,rfl⟩:=h
  subst ht
  exact⟨b,_,rfl,(nP p [s] τ).2 ⟨hi,hs⟩,b,hb,by rw[nO]⟩
 |dP τ x _ _=>
  simp only[qC,Option.some.injEq]at ht
  simp only[AR]at h ⊢
  obtain⟨hi,b,hb,rfl⟩:=h
  subst ht
  exact⟨b,_,rfl,(nP p [s] τ).2 ⟨hi,hs⟩,b,hb,by rw[nO]⟩
 |own e l=>
  simp only[AR]at h ⊢
  obtain⟨i,q,rfl,AK,hi,b,n,cp,hb,rfl⟩:=h
  simp only[qC,Option.some.injEq]at ht
  subst ht
  exact⟨b,_,rfl,i,q++[s],rfl,AK,(nP q [s] e).2 ⟨hi,hs⟩,b,n,cp,hb,by rw[nO,Nat.add_assoc]⟩
 |ku e l=>
  simp only[AR]at h ⊢
  obtain⟨i,q,rfl,AK,hi,b,n,cp,hb,rfl⟩:=h
  simp only[qC,Option.some.injEq]at ht
  subst ht
  exact⟨b,_,rfl,i,q++[s],rfl,AK,(nP q [s] e).2 ⟨hi,hs⟩,b,n,cp,hb,by rw[nO,Nat.add_assoc]⟩
 |gone=>simp[qC]at ht
theorem vx(hE:EnvTy P E)(hc:Core c σ a.tmps w M ν){t:TypeId}{x:Operand}{n:Nat}(ho:o.op= .fieldAddr t x n){K:fm α}{τ:Ty}(ht:E.ty t=some τ){id:Nat}{p:List Step}(hx:σ.ρ x= .fD id p)
  (h:jl id p σ.H (fun υ=>jk υ τ (sj τ τ.zero n fun υ' _=>cond (Nat.beq υ'.size 0) none (K (.fD id (p++[.gw n])) [id] [])))=some r) (hn:dM c σ a o w M ν K r next):o.wp P a w next Q:=by
 obtain⟨e,υ,aT,het,h⟩:=yN h
 obtain⟨Y0,h_⟩:=dG h
 clear h
 subst Y0
 have h:=h_
 clear h_
 obtain⟨υ',y,of,hf,h⟩:=oC h
 obtain⟨hz,h⟩:=iP h
 have hv:=hc.ev x
 rw[hx]at hv
 simp only[VR]at hv
 obtain⟨e',sD,jJ⟩:=hv
 rw[aT]at sD;cases sD
 obtain⟨b,off,hu,Y1⟩:=jJ.step het (.gw n) trivial
 obtain⟨fs,f,HS,hff,hfo,Nw⟩:=(hE.ty t υ ht).gw hf
 obtain⟨v,cA,hvv⟩:=oI (P:=P) ho (w:=w) HS hff Nw (nb hz) hu
 refine aK cA (hn _ _ _ _ _ M ν h (.refl hc.mem) ?_)
 simp only[VR]
 refine⟨e,aT,?_⟩
 rw[hvv,hfo,hf.eq.2]
 simpa [bC]using Y1
theorem tR(hE:EnvTy P E)(hc:Core c σ a.tmps w M ν){t:TypeId}{x:Operand}{n:Nat}(ho:o.op= .fieldAddr t x n){K:fm α}{τ:Ty}(ht:E.ty t=some τ){υ:Ty}{z:υ.den}(hx:σ.ρ x= .my υ z)
  (h:jk υ τ (sj υ z n fun υ y=>cond (Nat.beq υ.size 0) none (K (.my υ y) [] []))=some r) (hn:dM c σ a o w M ν K r next):o.wp P a w next Q:=by
 obtain⟨he,h1⟩:=dG h
 subst he
 obtain⟨υ',y,of,hf,h⟩:=oC h1
 obtain⟨hz,h⟩:=iP h
 have hv:=hc.ev x
 rw[hx]at hv
 simp only[VR]at hv
 obtain⟨b,off,hu,hb,hM,cs,lL,hr⟩:=hv
 obtain⟨fs,f,HS,hff,hfo,Nw⟩:=(hE.ty t υ ht).gw hf
 obtain⟨v,cA,hvv⟩:=oI (P:=P) ho (w:=w) HS hff Nw (nb hz) hu
 refine aK cA (hn _ _ _ _ _ M ν h (.refl hc.mem) ?_)
 simp only[VR]
 exact⟨b,off+f.offset,hvv,hb,hM,_,by rw[hfo];exact lL.sub of υ'.size,hf.rd hr⟩
theorem V.agg{τ:Ty}(ha:τ.isAgg=true){v:Value}{x:τ.den}(h:V w M τ v x): ∃cs,v= .agg cs∧Rd w M τ cs.toList x:=by
 unfold V at h;rw[if_pos ha]at h;exact h
theorem xj.agg{τ:Ty}{x:τ.den}{n:Nat}{υ:Ty}{y:υ.den}{o:Nat}(h:xj τ x n υ y o):τ.isAgg=true:=by cases h<;>rfl
theorem Nx(hE:EnvTy P E)(hc:Core c σ a.tmps w M ν){t:TypeId}{x:Operand}{n:Nat}(ho:o.op= .field t x n){K:fm α}{τ:Ty}(ht:E.ty t=some τ){υ:Ty}{z:υ.den}(hx:σ.ρ x= .val υ z)
  (h:jk υ τ (sj υ z n fun υ y=>K (.val υ y) [] [])=some r) (hn:dM c σ a o w M ν K r next):o.wp P a w next Q:=by
 obtain⟨he,h1⟩:=dG h
 subst he
 obtain⟨υ',y,of,hf,h⟩:=oC h1
 have hv:=hc.ev x
 rw[hx]at hv
 simp only[VR]at hv
 obtain⟨cs,hu,hr⟩:=hv.agg hf.agg
 obtain⟨fs,f,HS,hff,hfo,Nw⟩:=(hE.ty t υ ht).gw hf
 have dx:=hf.rd hr
 refine aK (CD ho HS hff Nw hu (by rw[hfo];exact dx)) (hn _ _ _ _ _ M ν h (.refl hc.mem) ?_)
 simp only[VR]
 rw[hfo]
 exact V.bF dx
theorem CG(hE:EnvTy P E)(hc:Core c σ a.tmps w M ν){t:TypeId}{x i:Operand}(ho:o.op= .indexAddr t x i){K:fm α}{τ:Ty}(ht:E.ty t=some τ)
  (h:ea τ (σ.ρ x) (σ.ρ i) σ.H K=some r) (hn:dM c σ a o w M ν K r next):o.wp P a w next Q:=by
 unfold ea at h
 obtain⟨k,n,hi,h2⟩:=jn h
 clear h
 have h:=h2
 clear h2
 have JZ:=hc.ev i
 rw[hi]at JZ
 have JZ:=JZ.int
 have hv:=hc.ev x
 have tP:=hE.ty t τ ht
 split at h
 ·
  rename_i e
  obtain⟨e',HS,hle⟩:=tP.slice
  split at h
  ·rename_i υ l hx
   obtain⟨e1,h⟩:=a7 h
   subst e1
   obtain⟨jZ,h⟩:=bB h
   obtain⟨h0,h1⟩:=o7 jZ
   have h1:n<(List.length l:Int):=h1
   rw[hx]at hv
   simp only[VR]at hv
   have hv:=V.slice.1 hv
   simp only[Rd,List.cons.injEq,and_true]at hv
   obtain⟨ad,cap,hu,adZ,hr⟩:=hv
   obtain⟨b,off,rfl,hb,hM,cs,lL,gV⟩:=hr n.toNat (by omega)
   refine aK (gY ho HS hle hu JZ h0 h1) (hn _ _ _ _ _ M ν h (.refl hc.mem) ?_)
   simp only[VR]
   refine⟨b,_,rfl,hb,hM,cs,lL,?_⟩
   have:Rd w M e cs (List.getD l n.toNat e.zero):=by rw[gB l n.toNat e.zero (by omega)];exact gV
   exact this
  ·rename_i id hx
   rw[hx]at hv
   simp only[VR]at hv
   obtain⟨_,hu⟩:=hv
   split at h
   ·rename_i e2 l aT
    obtain⟨Y0,h_⟩:=dG h
    clear h
    subst Y0
    have h:=h_
    clear h_
    obtain⟨jZ,h⟩:=bB h
    obtain⟨h0,h1⟩:=o7 jZ
    have jb:=hc.mem.iO id _ aT
    simp only[ER]at jb
    rcases jb with⟨rfl,_⟩|⟨b,cs,te,cap,hb,hg,hM,M5,hl,Bn,hs,hr⟩
    ·simp at h1;omega
    ·rw[hb]at hu
     refine aK (gY ho HS hle hu JZ h0 h1) (hn _ _ _ _ _ M ν h (.refl hc.mem) ?_)
     simp only[VR]
     refine⟨_,aT,?_⟩
     simp only[AR]
     exact⟨n.toNat,[],rfl,by omega,trivial,b,_,_,hb,by simp[bC]⟩
   ·rename_i e2 l aT
    obtain⟨Y0,h_⟩:=dG h
    clear h
    subst Y0
    have h:=h_
    clear h_
    obtain⟨jZ,h⟩:=bB h
    obtain⟨h0,h1⟩:=o7 jZ
    have jb:=hc.mem.iO id _ aT
    simp only[ER]at jb
    obtain⟨gV,hhd⟩:=jb
    simp only[Rd,List.cons.injEq,and_true]at gV
    obtain⟨ad,cap,hb,adZ,hr⟩:=gV
    rcases hhd with⟨rfl,_⟩|⟨b,n2,c2,so⟩
    ·simp at h1;omega
    ·rw[hb]at so;cases so
     rw[hb]at hu
     refine aK (gY ho HS hle hu JZ h0 h1) (hn _ _ _ _ _ M ν h (.refl hc.mem) ?_)
     simp only[VR]
     refine⟨_,aT,?_⟩
     simp only[AR]
     exact⟨n.toNat,[],rfl,by omega,trivial,b,_,_,hb,by simp[bC]⟩
   ·cases h
  ·cases h
 ·
  rename_i len e
  obtain⟨e',HS,hle⟩:=tP.arr
  split at h
  ·rename_i id p hx
   obtain⟨en,υ,aT,het,h⟩:=yN h
   obtain⟨Y0,h_⟩:=dG h
   clear h
   subst Y0
   have h:=h_
   clear h_
   obtain⟨jZ,h⟩:=bB h
   obtain⟨h0,h1⟩:=o7 jZ
   rw[hx]at hv
   simp only[VR]at hv
   obtain⟨en',sD,jJ⟩:=hv
   rw[aT]at sD;cases sD
   obtain⟨b,off,hu,Y1⟩:=jJ.step het (.idx n.toNat) ⟨⟨len,e,rfl,by omega⟩,trivial⟩
   refine aK (nS ho HS hle hu JZ h0 h1) (hn _ _ _ _ _ M ν h (.refl hc.mem) ?_)
   simp only[VR]
   refine⟨en,aT,?_⟩
   simpa [bC,YQ]using Y1
  ·rename_i υ l hx
   obtain⟨e1,h⟩:=a7 h
   subst e1
   obtain⟨jZ,h⟩:=bB h
   obtain⟨h0,h1⟩:=o7 jZ
   rw[hx]at hv
   simp only[VR]at hv
   obtain⟨b,off,hu,hb,hM,cs,lL,hr⟩:=hv
   refine aK (nS ho HS hle hu JZ h0 h1) (hn _ _ _ _ _ M ν h (.refl hc.mem) ?_)
   simp only[VR]
   exact⟨b,_,rfl,hb,hM,_,lL.sub _ e.size,hr.idx (by omega)⟩
  ·cases h
 ·cases h
theorem xr(hc:Core c σ a.tmps w M ν){x:Operand}(ho:o.op= .nilCheck x){K:fm α}{id:Nat}{p:List Step}(hx:σ.ρ x= .fD id p)
  (h:K (.fD id p) [] []=some r) (hn:dM c σ a o w M ν K r next):o.wp P a w next Q:=by
 have hv:=hc.ev x
 have Ny:=hv
 rw[hx]at hv
 simp only[VR]at hv
 obtain⟨e,he,jJ⟩:=hv
 obtain⟨ad,hu⟩:=jJ.ptr
 refine aK (pZ ho hu) (hn _ _ _ _ _ M ν h (.refl hc.mem) ?_)
 rw[←hu,←hx];exact Ny
theorem vy(hc:Core c σ a.tmps w M ν){x:Operand}(ho:o.op= .nilCheck x){K:fm α}{τ:Ty}{z:τ.den}(hx:σ.ρ x= .my τ z)
  (h:K (.my τ z) [] []=some r) (hn:dM c σ a o w M ν K r next):o.wp P a w next Q:=by
 have hv:=hc.ev x
 have Ny:=hv
 rw[hx]at hv
 simp only[VR]at hv
 obtain⟨b,off,hu,_⟩:=hv
 refine aK (pZ ho hu) (hn _ _ _ _ _ M ν h (.refl hc.mem) ?_)
 rw[←hu,←hx];exact Ny
theorem fF.get{H:Nat→Option aP}: ∀{lK:List aY} {vs:List Value},fF w M H ν lK vs→ ∀{i:Nat} {x:aY},lK[i]? =some x→ ∃v,vs[i]? =some v∧VR w M H ν x v
 |[],_,_,i,x,hx=>by simp at hx
 |y::lK,[],h,_,_,_=>by simp[fF]at h
 |y::lK,v::vs,h,0,x,hx=>by
  simp only[fF]at h
  simp at hx;subst hx
  exact⟨v,rfl,h.1⟩
 |y::lK,v::vs,h,i+1,x,hx=>by
  simp only[fF]at h
  exact fF.get h.2 (by simpa using hx)
theorem Il(hc:Core c σ a.tmps w M ν){x:Operand}{i:Nat}(ho:o.op= .extract x i){K:fm α}{vs:List aY}{v:aY}(hx:σ.ρ x= .tup vs)(hi:vs[i]? =some v)
  (h:K v [] []=some r) (hn:dM c σ a o w M ν K r next):o.wp P a w next Q:=by
 have hv:=hc.ev x
 rw[hx]at hv
 simp only[VR]at hv
 obtain⟨us,hu,Rg⟩:=hv
 obtain⟨u,hui,hvu⟩:=Rg.get hi
 exact aK (yG ho hu hui) (hn _ _ _ _ _ M ν h (.refl hc.mem) hvu)
theorem Core.evs(hc:Core c σ a.tmps w M ν): ∀xs:List Operand,fF w M σ.H ν (xs.map σ.ρ) (xs.map a.eval)
 |[]=>by simp[fF]
 |x::xs=>by simp only[List.map_cons,fF];exact⟨hc.ev x,hc.evs xs⟩
theorem qD: ∀{lK:List aY} {vs:List Value} {H:Nat→Option aP} {M:Nat→Prop} {K:List aY→List Nat→fl→Option α},Mem c H w M ν→fF w M H ν lK vs→qv H lK K=some r→
  ∃cs rd ups M',K cs rd ups=some r∧Tr c H w M ν (bS H ups) w M' ν∧fF w M' (bS H ups) ν cs vs
 |[],vs,H,M,K,hm,hv,h=>⟨[],[],[],M,h,.refl hm,hv⟩
 |x::xs,[],H,M,K,hm,hv,h=>by simp[fF]at hv
 |x::xs,v::vs,H,M,K,hm,hv,h=>by
  simp only[fF]at hv
  unfold qv at h
  split at h
  ·rename_i id
   split at h
   ·rename_i τ z aT
    obtain⟨M1,b,ht,hb,dF,hM,nQ,lL,gV⟩:=Tr.fix hm aT
    obtain⟨cs,rd,ups,M2,hK,QK,Rh⟩:=qD ht.mem (fF.bs ht.bs ht.goes hv.2) h
    refine⟨_,_,_,M2,hK,ht.trans QK,?_⟩
    have h1:VR w M1 (bm H id (some .gone)) ν (.my τ z) v:=by
     have Ez:=hv.1
     simp only[VR]at Ez ⊢
     obtain⟨e,he,jJ⟩:=Ez
     rw[aT]at he;cases he
     simp only[AR]at jJ
     obtain⟨_,b',dw,Ez⟩:=jJ
     rw[hb]at dw;cases dw
     exact⟨b,0,Ez,dF,hM,nQ,lL,gV⟩
    simp only[fF]
    exact⟨VR.bs QK.bs QK.goes h1,Rh⟩
   ·cases h
  ·obtain⟨cs,rd,ups,M2,hK,QK,Rh⟩:=qD hm hv.2 h
   refine⟨_,_,_,M2,hK,QK,?_⟩
   simp only[fF]
   exact⟨VR.bs QK.bs QK.goes hv.1,Rh⟩
theorem EA(hc:Core c σ a.tmps w M ν){f:FuncId}{first caps:Array Operand}(ho:o.op= .makeFunc (.func f) first caps){K:fm α}
  (h:cond first.isEmpty (qv σ.H (caps.toList.map σ.ρ) fun cs rd ups=>K (.Eg f cs) rd ups) none=some r) (hn:dM c σ a o w M ν K r next):o.wp P a w next Q:=by
 obtain⟨hf,h⟩:=bB h
 obtain⟨cs,rd,ups,M',hK,ht,hv⟩:=qD hc.mem (hc.evs _) h
 refine aK (xm ho (by simpa using hf)) (hn _ _ _ _ _ M' ν hK ht ?_)
 simp only[VR]
 exact⟨caps.toList.map a.eval,by congr 1;apply Array.ext';simp,hv⟩
theorem Im(hE:EnvTy P E)(hc:Core c σ a.tmps w M ν){s d:TypeId}{x:Operand}(ho:o.op= .convert s d x){K:fm α}{τ:Ty}{k:IntKind}(hs:E.ty s=some τ)(hd:E.ty d=some (.int k))
  (h:qq (σ.ρ x) (fun _ n=>K (.val (.int k) (W k n)) [] [])=some r) (hn:dM c σ a o w M ν K r next):o.wp P a w next Q:=by
 obtain⟨k',n,hx,h⟩:=jn h
 have hv:=hc.ev x
 rw[hx]at hv
 refine aK (yH ho (hE.ty s τ hs).isSome (hE.ty d _ hd).int hv.int) (hn _ _ _ _ _ M ν h (.refl hc.mem) ?_)
 rw[xg];exact .mkInt k _
end VM
end
section
namespace VM
open Go
variable{P:Program}{E:Env}{o:Oper}{a:Act}{w:World}{M:Nat→Prop}{ν:Nat→Value}{σ:St}{c:Ctx}{α:Type}{r:α}{next:Act→World→Prop}{Q:Exit→Act→World→Prop}
theorem Ld{b:BinOp}{k k':IntKind}{x y:Int}{t:TypeId}{K:aY→Option α}(h:Q5 b k x y K=some r):
  ∃z,K (.val (.int k) z)=some r∧(binOp b t (.int k x) (.int k' y)).run P w= .ok (.int k z) w:=by
 unfold Q5 at h
 split at h
 ·obtain⟨h0,h⟩:=iP h
  rw[mw]at h0
  have h0: ¬y<0:=by simpa using h0
  refine⟨_,h,?_⟩
  rw[xg,Nl]
  simp[binOp,Op.shift,h0]
 ·obtain⟨h0,h⟩:=iP h
  rw[mw]at h0
  have h0: ¬y<0:=by simpa using h0
  refine⟨_,h,?_⟩
  rw[Ig]
  simp[binOp,Op.shift,h0]
 ·cases h
theorem CH{b:BinOp}{k:IntKind}{x y:Int}{t:TypeId}{K:aY→Option α}(h:o3 b k x y K=some r):
  ∃v u,K v=some r∧(binOp b t (.int k x) (.int k y)).run P w= .ok u w∧ ∀H,VR w M H ν v u:=by
 unfold o3 at h
 split at h
 ·exact⟨_,_,h,by simp[binOp,Op.intArith,xg],fun H=> .mkInt _ _⟩
 ·exact⟨_,_,h,by simp[binOp,Op.intArith,xg],fun H=> .mkInt _ _⟩
 ·exact⟨_,_,h,by simp[binOp,Op.intArith,xg],fun H=> .mkInt _ _⟩
 ·obtain⟨h0,h⟩:=iP h
  rw[fL]at h0
  have h0: ¬y=0:=by simpa using h0
  exact⟨_,_,h,by simp[binOp,Op.intDiv,xg,Ct,h0],fun H=> .mkInt _ _⟩
 ·obtain⟨h0,h⟩:=iP h
  rw[fL]at h0
  have h0: ¬y=0:=by simpa using h0
  exact⟨_,_,h,by simp[binOp,Op.intDiv,Nk,h0],fun H=> .mkInt _ _⟩
 ·exact⟨_,_,h,by simp[binOp,Op.intBits,o1],fun H=> .mkInt _ _⟩
 ·exact⟨_,_,h,by simp[binOp,Op.intBits,o1],fun H=> .mkInt _ _⟩
 ·exact⟨_,_,h,by simp[binOp,Op.intBits,o1],fun H=> .mkInt _ _⟩
 ·exact⟨_,_,h,by simp[binOp,Op.intBits,o1],fun H=> .mkInt _ _⟩
 ·exact⟨_,.bool (decide (x=y)),h,by simp[binOp,Op.intCmp];rfl,fun H=>by rw[fL];exact .o6 _⟩
 ·exact⟨_,.bool (!decide (x=y)),h,by simp[binOp,Op.intCmp];rfl,fun H=>by rw[fL];exact .o6 _⟩
 ·exact⟨_,_,h,by simp[binOp,Op.intCmp,mw],fun H=> .o6 _⟩
 ·exact⟨_,_,h,by simp[binOp,Op.intCmp,jV],fun H=> .o6 _⟩
 ·exact⟨_,_,h,by simp[binOp,Op.intCmp,mw],fun H=> .o6 _⟩
 ·exact⟨_,_,h,by simp[binOp,Op.intCmp,jV],fun H=> .o6 _⟩
 ·cases h
theorem Le{t:Option Ty}{op:BinOp}{τ:Ty}{x:τ.den}{υ:Ty}{y:υ.den}{K:aY→Option α}(h:yC t op τ x υ y K=some r):
  (∃(k k':IntKind) (m n:Int),aY.val τ x= .val (.int k) m∧aY.val υ y= .val (.int k') n∧(cond (Q6 op) (Q5 op k m n K) (if k=k' then o3 op k m n K else none))=some r)∨
  (∃z:τ.den,aY.val υ y= .val τ z∧t=some τ∧τ.comparable=true∧((op= .eql∧K (.val .bool (la τ x z))=some r)∨(op= .neq∧K (.val .bool (!la τ x z))=some r))):=by
 unfold yC at h
 split at h
 ·exact .inl ⟨_,_,_,_,rfl,rfl,h⟩
 ·right
  split at h
  ·cases h
  ·obtain⟨e,h1⟩:=dG h
   clear h
   subst e
   obtain⟨hc,h⟩:=bB h1
   clear h1
   split at h
   ·obtain⟨e,h1⟩:=a7 h
    subst e
    exact⟨_,rfl,rfl,hc,.inl ⟨rfl,h1⟩⟩
   ·obtain⟨e,h1⟩:=a7 h
    subst e
    exact⟨_,rfl,rfl,hc,.inr ⟨rfl,h1⟩⟩
   ·cases h
theorem wz{t:TypeId}(hu:P.underlying t=some .bool)(x y:Bool)(w:World):(Op.equal t (.bool x) (.bool y)).run P w= .ok (x==y) w:=by
 unfold Op.equal
 obtain⟨n,hn⟩: ∃n,Op.maxDepth=n+1:=⟨9999,rfl⟩
 rw[hn]
 simp[Op.equalIn,run_underlying hu]
theorem run_eql_bool{t:TypeId}(hu:P.underlying t=some .bool)(x y:Bool):(binOp .eql t (.bool x) (.bool y)).run P w= .ok (.bool (x==y)) w:=by
 simp[binOp,wz hu]
theorem run_neq_bool{t:TypeId}(hu:P.underlying t=some .bool)(x y:Bool):(binOp .neq t (.bool x) (.bool y)).run P w= .ok (.bool (!(x==y))) w:=by
 simp[binOp,wz hu]
theorem ad1(x y:ByteArray):(x.toList==y.toList)=decide (x.toList=y.toList):=by
 rw[Bool.eq_iff_iff];simp
theorem EB{t:TypeId}(x y:ByteArray):(binOp .eql t (.string x) (.string y)).run P w= .ok (.bool (decide (x.toList=y.toList))) w:=by
 simp[binOp,Op.stringOp,ad1]
theorem EC{t:TypeId}(x y:ByteArray):(binOp .neq t (.string x) (.string y)).run P w= .ok (.bool (!decide (x.toList=y.toList))) w:=by
 simp[binOp,Op.stringOp,ad1]
theorem Nz(hE:EnvTy P E)(hc:Core c σ a.tmps w M ν){b:BinOp}{t t':TypeId}{x y:Operand}(ho:o.op= .binOp b t x y t'){K:fm α}
  (h:Ei (σ.ρ x) (fun τ x=>Ei (σ.ρ y) fun υ y=>yC (E.ty t) b τ x υ y fun v=>K v [] [])=some r) (hn:dM c σ a o w M ν K r next):o.wp P a w next Q:=by
 have hx:=hc.ev x
 have hy:=hc.ev y
 unfold Ei at h
 split at h
 ·rename_i τ x' Y2
  split at h
  ·rename_i υ y' hye
   rw[Y2]at hx;rw[hye]at hy
   rcases Le h with⟨k,k',m,n,e1,e2,h1⟩|⟨z,e2,ht,Lf,h1⟩
   ·rw[e1]at hx;rw[e2]at hy
    have hx:=hx.int
    have hy:=hy.int
    cases hs:Q6 b
    ·rw[hs]at h1
     replace h1:(if k=k' then o3 b k m n (fun v=>K v [] [])else none)=some r:=h1
     split at h1
     ·rename_i hk;subst hk
      obtain⟨v,u,hK,cA,hVR⟩:=CH (P:=P) (w:=w) (M:=M) (ν:=ν) (t:=t) h1
      exact aK (lM ho (by rw[hx,hy];exact lh w) (by rw[hx,hy];exact cA)) (hn _ [] [] _ _ _ _ hK (.refl hc.mem) (hVR _))
     ·cases h1
    ·rw[hs]at h1
     replace h1:Q5 b k m n (fun v=>K v [] [])=some r:=h1
     obtain⟨z,hK,cA⟩:=Ld (P:=P) (w:=w) (k':=k') (t:=t) h1
     exact aK (lM ho (by rw[hx,hy];exact lh w) (by rw[hx,hy];exact cA)) (hn _ [] [] _ _ _ _ hK (.refl hc.mem) (.mkInt _ _))
   ·rw[e2]at hy
    have key:(eqGuard b t x y (a.eval x) (a.eval y)).run P w= .ok () w∧(binOp .eql t (a.eval x) (a.eval y)).run P w= .ok (.bool (la τ x' z)) w∧(binOp .neq t (a.eval x) (a.eval y)).run P w= .ok (.bool (!la τ x' z)) w:=by
     by_cases Et:τ.isAgg=true
     ·simp only[VR]at hx hy
      exact hE.eq t τ ht Lf Et w M _ _ _ _ b x y hx hy
     ·have hl:=hE.ty t τ ht
      cases τ with
      |int k=>
       rw[hx.int,hy.int]
       refine⟨lh w,?_,?_⟩
       ·simp[binOp,Op.intCmp,la,fL];rfl
       ·simp[binOp,Op.intCmp,la,fL];rfl
      |bool=>rw[hx.bool,hy.bool];exact⟨vv w,run_eql_bool hl.bool _ _,run_neq_bool hl.bool _ _⟩
      |str=>rw[hx.str,hy.str];exact⟨xn w,by rw[EB];simp[la,yB],by rw[EC];simp[la,yB]⟩
      |slice e=>simp[Ty.comparable]at Lf
      |unit=>simp[Ty.isAgg]at Et
      |pair _ _=>simp[Ty.isAgg]at Et
      |arr _ _=>simp[Ty.isAgg]at Et
    obtain⟨hg,h2,h3⟩:=key
    rcases h1 with⟨rfl,hK⟩|⟨rfl,hK⟩
    ·exact aK (lM ho hg h2) (hn _ [] [] _ _ _ _ hK (.refl hc.mem) (.o6 _))
    ·exact aK (lM ho hg h3) (hn _ [] [] _ _ _ _ hK (.refl hc.mem) (.o6 _))
  ·cases h
 ·cases h
theorem Ri(hc:Core c σ a.tmps w M ν){u:UnOp}{t:TypeId}{x:Operand}(ho:o.op= .unOp u t x){K:fm α}
  (h:K2 u (σ.ρ x) (fun v=>K v [] [])=some r) (hn:dM c σ a o w M ν K r next):o.wp P a w next Q:=by
 have hx:=hc.ev x
 unfold K2 at h
 split at h
 ·rename_i k n Y2
  rw[Y2]at hx
  refine aK (qA ho (v:= .int k (k.wrap (0-n))) ?_) (hn _ [] [] _ _ _ _ h (.refl hc.mem) (by rw[xg];exact .mkInt _ _))
  rw[hx.int];simp[Op.unary,Op.intArith]
 ·rename_i k n Y2
  rw[Y2]at hx
  refine aK (qA ho (v:= .int k (ja .xor k (if k.signed then-1 else k.max) n)) ?_) (hn _ [] [] _ _ _ _ h (.refl hc.mem) (.mkInt _ _))
  rw[hx.int,o1];simp[Op.unary,Op.intBits]
 ·rename_i b Y2
  rw[Y2]at hx
  refine aK (qA ho (v:= .bool (!b)) ?_) (hn _ [] [] _ _ _ _ h (.refl hc.mem) (.o6 _))
  rw[hx.bool];simp[Op.unary]
 ·cases h
end VM
end
section
namespace VM
open Go
variable{P:Program}{E:Env}{o:Oper}{a:Act}{w:World}{M:Nat→Prop}{ν:Nat→Value}{σ:St}{c:Ctx}{α:Type}{r:α}{next:Act→World→Prop}{Q:Exit→Act→World→Prop}
theorem j2{args:Array Operand}{ts:Array TypeId}{t:TypeId}{x:Operand}{n:Nat}(ho:o.op= .call {callee:= .builtin .len,args,argTypes:=ts})(ha:args.toList=[x])(_ht:ts.toList.head?=some t)
  (hl: ∀ty,(Builtin.len_ ts ty #[a.eval x]).run P w= .ok (goInt n) w):(execOp a.eval o).run P w= .ok (.value (.int .i64 n)) w:=by
 obtain⟨cs,hr⟩:=mD (P:=P) (ρ:=a.eval) ho (w:=w)
 rw[hr]
 have:args.map a.eval= #[a.eval x]:=by apply Array.ext';simp[ha]
 rw[this]
 simp[builtin,hl,goInt]
theorem Rj{ts:Array TypeId}{t ty:TypeId}(ht:ts[0]? =some t)(hu:P.underlying t=some .string)(s:ByteArray):(Builtin.len_ ts ty #[.string s]).run P w= .ok (goInt s.size) w:=by
 simp[Builtin.len_,ht,run_underlying hu]
theorem Rk{ts:Array TypeId}{t ty e:TypeId}{n:Nat}(ht:ts[0]? =some t)(hu:P.underlying t=some (.array n e))(v:Value):(Builtin.len_ ts ty #[v]).run P w= .ok (goInt n) w:=by
 simp[Builtin.len_,ht,run_underlying hu]
theorem rB{ts:Array TypeId}{t ty e:TypeId}(ht:ts[0]? =some t)(hu:P.underlying t=some (.slice e))(ad:Option Addr)(n cp:Nat):(Builtin.len_ ts ty #[.slice ad n cp]).run P w= .ok (goInt n) w:=by
 simp[Builtin.len_,ht,run_underlying hu]
theorem ER.NA{e:Ty}{l:List e.den}{v:Value}(h:ER w M v (.own e l)): ∃ad cp,v= .slice ad l.length cp:=by
 simp only[ER]at h
 rcases h with⟨rfl,a,hv⟩|⟨b,cs,t,cap,hv,_⟩
 ·exact⟨a,0,hv⟩
 ·exact⟨_,cap,hv⟩
theorem ER.NB{e:Ty}{l:List e.den}{v:Value}(h:ER w M v (.ku e l)): ∃ad cp,v= .slice ad l.length cp:=by
 simp only[ER]at h
 have h:=h.1
 simp only[Rd,List.cons.injEq,and_true]at h
 obtain⟨a,cap,hv,_⟩:=h
 exact⟨a,cap,hv⟩
theorem Y3(hE:EnvTy P E)(hc:Core c σ a.tmps w M ν){args:Array Operand}{ts:Array TypeId}{x:Operand}(ho:o.op= .call {callee:= .builtin .len,args,argTypes:=ts})(ha:args.toList=[x]){K:fm α}{τ:Ty}
  (ht:(ts.toList.head?).bind E.ty=some τ) (h:Ej τ (σ.ρ x) σ.H K=some r) (hn:dM c σ a o w M ν K r next):o.wp P a w next Q:=by
 obtain⟨t,nE,QK⟩:=Option.bind_eq_some_iff.1 ht
 have Rl:ts[0]? =some t:=by rw[←nE,←Array.getElem?_toList,List.head?_eq_getElem?]
 have hl:=hE.ty t τ QK
 have hv:=hc.ev x
 unfold Ej at h
 split at h
 ·rename_i e e' l hx
  obtain⟨_,hu,_⟩:=hl.slice
  rw[hx]at hv
  simp only[VR]at hv
  have hv:=V.slice.1 hv
  simp only[Rd,List.cons.injEq,and_true]at hv
  obtain⟨ad,cap,hv,_⟩:=hv
  refine aK (j2 ho ha nE (n:=List.length l) fun ty=>by rw[hv];exact rB Rl hu _ _ _) (hn _ [] [] _ _ _ _ h (.refl hc.mem) (.mkInt _ _))
 ·rename_i n e n' e' l hx
  obtain⟨_,hu,_⟩:=hl.arr
  refine aK (j2 ho ha nE (n:=n) fun ty=>Rk Rl hu _) (hn _ [] [] _ _ _ _ h (.refl hc.mem) (.mkInt _ _))
 ·rename_i s hx
  rw[hx]at hv
  refine aK (j2 ho ha nE (n:=ByteArray.size s) fun ty=>by rw[hv.str];exact Rj Rl hl.str _) (hn _ [] [] _ _ _ _ h (.refl hc.mem) (.mkInt _ _))
 ·rename_i e hx
  obtain⟨_,hu,_⟩:=hl.slice
  rw[hx]at hv
  simp only[VR]at hv
  obtain⟨ad,hv⟩:=hv
  refine aK (j2 ho ha nE (n:=0) fun ty=>by rw[hv];exact rB Rl hu _ _ _) (hn _ [] [] _ _ _ _ h (.refl hc.mem) (.mkInt _ _))
 ·rename_i e id hx
  obtain⟨_,hu,_⟩:=hl.slice
  rw[hx]at hv
  simp only[VR]at hv
  split at h
  ·rename_i e' l aT
   obtain⟨ad,cap,hh⟩:=(hc.mem.iO id _ aT).NA
   refine aK (j2 ho ha nE (n:=l.length) fun ty=>by rw[hv.2,hh];exact rB Rl hu _ _ _) (hn _ [id] [] _ _ _ _ h (.refl hc.mem) (.mkInt _ _))
  ·rename_i e' l aT
   obtain⟨ad,cap,hh⟩:=(hc.mem.iO id _ aT).NB
   refine aK (j2 ho ha nE (n:=l.length) fun ty=>by rw[hv.2,hh];exact rB Rl hu _ _ _) (hn _ [id] [] _ _ _ _ h (.refl hc.mem) (.mkInt _ _))
  ·cases h
 ·cases h
theorem ED{H:Nat→Option aP}(up:Bool): ∀(xs:List aY) (x:aY) (v:Value) (vs:List Value) (K:aY→Option α),VR w M H ν x v→fF w M H ν xs vs→QH up x xs K=some r→
  ∃x' v',K x'=some r∧(vs.foldlM (if up then Builtin.max2 else Builtin.min2) v).run P w= .ok v' w∧VR w M H ν x' v'
 |[],x,v,[],K,hx,_,h=>⟨x,v,h,by simp,hx⟩
 |[],_,_,_::_,_,_,hs,_=>by simp[fF]at hs
 |_::_,_,_,[],_,_,hs,_=>by simp[fF]at hs
 |y::xs,x,v,u::vs,K,hx,hs,h=>by
  simp only[fF]at hs
  obtain⟨hy,hs⟩:=hs
  unfold QH at h
  obtain⟨k,m,e1,h1⟩:=jn h
  obtain⟨k',n,e2,h2⟩:=jn h1
  clear h h1
  split at h2
  ·rename_i hk
   subst hk
   rw[e1]at hx;rw[e2]at hy
   have hx:=hx.int
   have hy:=hy.int
   obtain⟨x',v',hK,cA,hV⟩:=ED up xs _ (.int k (cond up (mx m n) (mn m n))) vs K (.mkInt _ _) hs h2
   refine⟨x',v',hK,?_,hV⟩
   rw[List.foldlM_cons,Sem.run_bind]
   have:((if up then Builtin.max2 else Builtin.min2) v u).run P w= .ok (.int k (cond up (mx m n) (mn m n))) w:=by
    rw[hx,hy]
    cases up
    ·simp[Builtin.min2,XD]
    ·simp[Builtin.max2,XC]
   rw[this]
   exact cA
  ·cases h2
theorem XI(hc:Core c σ a.tmps w M ν)(up:Bool){args:Array Operand}{ts:Array TypeId}{x:Operand}{xs:List Operand}(ho:o.op= .call {callee:= .builtin (if up then .max else .min),args,argTypes:=ts})(ha:args.toList=x::xs){K:fm α}
  (h:QH up (σ.ρ x) (xs.map σ.ρ) (fun v=>K v [] [])=some r) (hn:dM c σ a o w M ν K r next):o.wp P a w next Q:=by
 obtain⟨x',v',hK,cA,hV⟩:=ED (P:=P) up (xs.map σ.ρ) (σ.ρ x) (a.eval x) (xs.map a.eval) _ (hc.ev x) (hc.evs xs) h
 refine aK ?_ (hn _ [] [] _ _ _ _ hK (.refl hc.mem) hV)
 obtain⟨cs,hr⟩:=mD (P:=P) (ρ:=a.eval) ho (w:=w)
 rw[hr]
 have hm:(args.map a.eval).toList=a.eval x::xs.map a.eval:=by simp[ha]
 cases up
 ·simp only[Bool.false_eq_true,if_false,builtin,Builtin.min_,hm,Sem.run_bind]at cA ⊢
  rw[cA];simp
 ·simp only[if_true,builtin,Builtin.max_,hm,Sem.run_bind]at cA ⊢
  rw[cA];simp
theorem AP{ρ:Operand→Value}{t:TypeId}{x i:Operand}(ho:o.op= .index t x i){k:IntKind}{n:Int}{s:ByteArray}
  (hu:P.underlying t=some .string) (hx:ρ x= .string s) (hi:ρ i= .int k n) (h0:0≤n) (h1:n<(s.size:Int)):
  (execOp ρ o).run P w= .ok (.value (.int .u8 ((s.data.getD n.toNat 0).toNat:Int))) w:=by
 have dF:n.toNat<s.size:=by omega
 have hs:s[n.toNat]? =some (s[n.toNat]'dF):=by simp[dF]
 have he:s[n.toNat]'dF=s.data.getD n.toNat 0:=by
  have qE:n.toNat<s.data.size:=dF
  rw[Array.getD,dif_pos qE];rfl
 simp[execOp,ho,hx,hi,Instr.index,asIntOf,run_underlying hu,h0,hs,he]
theorem NC(hE:EnvTy P E)(hc:Core c σ a.tmps w M ν){t:TypeId}{x i:Operand}(ho:o.op= .index t x i){K:fm α}{τ:Ty}(ht:E.ty t=some τ)
  (h:qw τ (σ.ρ x) (σ.ρ i) (fun v=>K v [] [])=some r) (hn:dM c σ a o w M ν K r next):o.wp P a w next Q:=by
 unfold qw at h
 obtain⟨k,n,hi,h2⟩:=jn h
 clear h
 have h:=h2
 clear h2
 have JZ:=hc.ev i
 rw[hi]at JZ
 have JZ:=JZ.int
 have hv:=hc.ev x
 have tP:=hE.ty t τ ht
 split at h
 ·rename_i len e υ l hx
  obtain⟨e',HS,hle⟩:=tP.arr
  obtain⟨e1,h⟩:=a7 h
  subst e1
  obtain⟨jZ,h⟩:=bB h
  obtain⟨h0,h1⟩:=o7 jZ
  rw[hx]at hv
  simp only[VR]at hv
  obtain⟨cs,hu,hr⟩:=hv.agg rfl
  have dx:=hr.idx (i:=n.toNat) (by omega)
  refine aK (AJ ho HS hle hu JZ h0 h1 dx) (hn _ [] [] _ _ _ _ h (.refl hc.mem) ?_)
  simp only[VR]
  exact V.bF dx
 ·rename_i s hx
  obtain⟨jZ,h⟩:=bB h
  obtain⟨h0,h1⟩:=o7 jZ
  rw[hx]at hv
  refine aK (AP ho tP.str hv.str JZ h0 h1) (hn _ [] [] _ _ _ _ h (.refl hc.mem) (.mkInt _ _))
 ·cases h
theorem ky(τ:Ty):τ.b9.length=τ.size:=(Rd.zero default (fun _=>False) τ).length
theorem xt{z:Array Value}{n i s:Nat}(hz:z.size=s)(hi:i*s+s≤n):((madeCells z n).toList.drop (i*s)).take s=z.toList:=by
 apply List.ext_getElem?
 intro j
 rw[List.getElem?_take]
 split
 ·rename_i hj
  rw[List.getElem?_drop,Array.getElem?_toList,Array.getElem?_toList]
  simp only[madeCells,Array.getElem?_map]
  rw[Array.getElem?_range,if_pos (by omega)]
  simp only[Option.map_some]
  have:(i*s+j)%z.size=j:=by rw[hz,Nat.mul_comm,Nat.mul_add_mod,Nat.mod_eq_of_lt hj]
  rw[this,Array.getElem?_eq_getElem (by omega),getElem!_pos z j (by omega)]
 ·rename_i hj
  rw[Array.getElem?_toList,Array.getElem?_eq_none (by omega)]
theorem mE.made(w:World)(M:Nat→Prop)(e:Ty){n l:Nat}(h:l*e.size≤n):mE w M e (madeCells (bF e e.b9).cells n).toList (List.replicate l e.zero):=by
 intro i hi
 rw[List.length_replicate]at hi
 have:=cS (s:=e.size) hi
 rw[xt (by rw[←Array.length_toList,eC,ky]) (by omega),eC,List.getElem_replicate]
 exact Rd.zero w M e
theorem vz{ρ:Operand→Value}{t:TypeId}{x y:Operand}(ho:o.op= .makeSlice t x y){v:Value}{w':World}(h:(Instr.makeSlice t (ρ x) (ρ y)).run P w= .ok v w'):(execOp ρ o).run P w= .ok (.value v) w':=by
 simp[execOp,ho,h]
theorem CI(hE:EnvTy P E)(hc:Core c σ a.tmps w M ν){t:TypeId}{x y:Operand}(ho:o.op= .makeSlice t x y){K:fm α}{e:Ty}(ht:E.ty t=some (.slice e)){id:Nat}
  (h:qq (σ.ρ x) (fun _ l=>qq (σ.ρ y) fun _ c=>cond (dZ l c)
   (mz σ.H id (.own e []) (K (.ref id) [id] [(id,some (.own e (List.replicate l.toNat e.zero)))])) none)=some r) (hn:dM c σ a o w M ν K r next):o.wp P a w next Q:=by
 obtain⟨k,l,hx,h1⟩:=jn h
 obtain⟨k',n,hy,h2⟩:=jn h1
 clear h h1
 obtain⟨hk,h⟩:=bB h2
 obtain⟨aT,h⟩:=hZ h
 rw[Bj]at hk
 obtain⟨h0,h1,h3⟩:=of_decide_eq_true hk
 simp only[tx]at h3
 obtain⟨e',hu,hle⟩:=(hE.ty t _ ht).slice
 obtain⟨i,hi,hs,hz,hb⟩:=hle.base
 have CJ:=hc.ev x
 have xq:=hc.ev y
 rw[hx]at CJ;rw[hy]at xq
 have Y4:(i.bytes:Int)*n≤281474976710656:=by
  have h4:(i.bytes:Int)≤2048:=by omega
  have:(i.bytes:Int)*n≤2048*n:=Int.mul_le_mul_of_nonneg_right h4 (by omega)
  omega
 have cA:=run_make (P:=P) w t e' i _ hu hi hz k k' l n h0 h1 Y4 (by omega)
 have hlen:(List.replicate l.toNat e.zero).length=l.toNat:=List.length_replicate
 have eP:=Tr.row hc.mem aT e' (e:=e) (cs:=madeCells (bF e e.b9).cells (n.toNat*i.size)) (l:=List.replicate l.toNat e.zero) (cap:=n.toNat) (by rw[hlen];omega) (by simp[maxLen];omega)
  (by rw[size_madeCells,hs]) (mE.made w M e (Nat.mul_le_mul (by omega) (by omega)))
 refine aK (vz ho (by rw[CJ.int,xq.int];exact cA)) (hn _ _ _ _ _ _ _ h eP ?_)
 simp only[VR]
 exact⟨by show bm σ.H id _ id≠none;rw[ak];simp,by simp[cj]⟩
end VM
end
