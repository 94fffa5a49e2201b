/- A part of the proof of HedgeDrawn of layer 22: a machine that reads a function of the program as an equation between values. -/
import Derived.Test.YtocmlaipoebfeaaGreatVm1
set_option linter.all false
section
namespace VM
open Go
variable{P:Program}{E:Env}{o:Oper}{a:Act}{w:World}{M:Nat→Prop}{ν:Nat→Value}{σ:St}{c:Ctx}{α:Type}{r:α}{next:Act→World→Prop}{Q:Exit→Act→World→Prop}
theorem aN{v:Value}{w':World}(h:(execOp a.eval o).run P w= .ok (.value v) w')(hn:next (a.put o.dst v) w'):o.wp P a w next Q:=by
 unfold Oper.wp Oper.upon;rw[h];exact hn
theorem nR{w':World}(h:(execOp a.eval o).run P w= .ok .skip w')(hn:next (a.put o.dst undef) w'):o.wp P a w next Q:=by
 unfold Oper.wp Oper.upon;rw[h];exact hn
def eh(c:Ctx)(σ:St)(a:Act)(o:Oper)(w:World)(M:Nat→Prop)(ν:Nat→Value)(K:fO α)(r:α)(next:Act→World→Prop):Prop:=
 ∀v rd ups v' w' M' ν',K v rd ups=some r→Tr c σ.H w M ν (ch σ.H ups) w' M' ν'→VR w' M' (ch σ.H ups) ν' v v'→next (a.put o.dst v') w'
theorem Core.ev(h:Core c σ a.tmps w M ν)(x:Operand):VR w M σ.H ν (σ.ρ x) (a.eval x):=h.op a.defers x
theorem j2{x:bb}{k:IntKind→Int→Option α}(h:rT x k=some r): ∃(i:IntKind) (n:Int),x= .val (.int i) n∧k i n=some r:=by
 unfold rT at h
 split at h
 ·exact⟨_,_,rfl,h⟩
 ·cases h
theorem VR.int{H:Nat→Option aS}{k:IntKind}{n:Int}{v:Value}(h:VR w M H ν (.val (.int k) n) v):v= .int k n:=by
 simp only[VR,V,Ty.isAgg,azv,aAt,Rd,azq,az4]at h;exact h
theorem VR.bool{H:Nat→Option aS}{b:Bool}{v:Value}(h:VR w M H ν (.val .bool b) v):v= .bool b:=by
 simp only[VR,V,Ty.isAgg,azv,aAt,Rd,azq,az4]at h;exact h
theorem VR.str{H:Nat→Option aS}{b:ByteArray}{v:Value}(h:VR w M H ν (.val .str b) v):v= .string b:=by
 simp only[VR,V,Ty.isAgg,azv,aAt,Rd,azq,az4]at h;exact h
theorem VR.mkInt{H:Nat→Option aS}(k:IntKind)(n:Int):VR w M H ν (.val (.int k) n) (.int k n):=by simp[VR,V,Ty.isAgg,Rd]
theorem VR.qx{H:Nat→Option aS}(b:Bool):VR w M H ν (.val .bool b) (.bool b):=by simp[VR,V,Ty.isAgg,Rd]
theorem VR.mkStr{H:Nat→Option aS}(b:ByteArray):VR w M H ν (.val .str b) (.string b):=by simp[VR,V,Ty.isAgg,Rd]
theorem MQ(hc:Core c σ a.tmps w M ν){x:Operand}(ho:o.op= .move x∨o.op= .assign x){K:fO α}(h:K (σ.ρ x) [] []=some r)(hn:eh c σ a o w M ν K r next):o.wp P a w next Q:=by
 have hr:(execOp a.eval o).run P w= .ok (.value (a.eval x)) w:=by
  rcases ho with ho|ho
  ·simp[execOp,ho]
  ·simp[execOp,ho]
 exact aN hr (hn _ _ _ _ _ _ _ h (.refl hc.mem) (hc.ev x))
theorem Uw(hc:Core c σ a.tmps w M ν){x y z:Operand}(ho:o.op= .pick x y z){K:fO α}{t:Bool}(hx:σ.ρ x= .val .bool t)(h:cond t (K (σ.ρ y) [] []) (K (σ.ρ z) [] [])=some r)
  (hn:eh c σ a o w M ν K r next):o.wp P a w next Q:=by
 have hv:=hc.ev x
 rw[hx]at hv
 refine aN (GQ ho hv.bool) ?_
 cases t
 ·exact hn _ _ _ _ _ _ _ h (.refl hc.mem) (hc.ev z)
 ·exact hn _ _ _ _ _ _ _ h (.refl hc.mem) (hc.ev y)
theorem iF{H:Nat→Option aS}{id:Nat}{e:aS}{K:Option α}(h:nL H id e K=some r):H id=none∧K=some r:=by
 unfold nL at h
 split at h
 ·rename_i h';exact⟨h',h⟩
 ·cases h
theorem VR.aa3{H:Nat→Option aS}{id:Nat}{τ:Ty}{x:τ.den}{b:Nat}(aV:H id=some (.obj τ x))(hν:ν id= .pointer (some ⟨b,0,none⟩)):VR w M H ν (.fW id []) (.pointer (some ⟨b,0,none⟩)):=by
 simp only[VR]
 exact⟨_,aV,trivial,b,hν,rfl⟩
theorem VR.Qx{H:Nat→Option aS}{id:Nat}{τ:Ty}{x:τ.den}{q:List Step}{j b:Nat}(aV:H id=some (.ej τ x q j))(hν:ν id= .pointer (some ⟨b,0,none⟩)):VR w M H ν (.fW id []) (.pointer (some ⟨b,0,none⟩)):=by
 simp only[VR]
 exact⟨_,aV,trivial,b,hν,rfl⟩
theorem eW(τ:Ty):(bU τ τ.cy).cells.toList=τ.cy:=Cx (Rd.zero default (fun _=>False) τ)
theorem GR: ∀{τ:Ty} {n:Nat} {a:Ty},EE τ n=some a→ ∃l m,τ.cy=l++(a.cy++m)∧l.length=oF τ n:=by
 intro τ
 induction τ with
 |pair a b _ Qw=>
  intro n c h
  cases n with
  |zero=>cases h;exact⟨[],b.cy,rfl,rfl⟩
  |succ n=>
   obtain⟨l,m,h1,h2⟩:=Qw (n:=n) (a:=c) h
   refine⟨a.cy++l,m,by simp only[Ty.cy];rw[h1,ayP],?_⟩
   rw[ayH,h2,(Rd.zero default (fun _=>False) a).length];rfl
 |_=>intro n c h;simp[EE]at h
theorem vo: ∀{p:List Step} {τ υ:Ty},eQ p τ υ=true→ ∃l m,τ.cy=l++(υ.cy++m)∧l.length=bQ p τ
 |[],τ,υ,h=>by
  have h:=ayV h
  subst h
  exact⟨[],[],by simp,rfl⟩
 | .gX n::p,τ,υ,h=>by
  unfold eQ at h
  split at h
  ·rename_i a ha
   obtain⟨l,m,h1,h2⟩:=GR ha
   obtain⟨l',m',h3,h4⟩:=vo h
   obtain⟨_,_,hf⟩:=pQ ha τ.zero
   have:=hf.eq.1
   subst this
   refine⟨l++l',m'++m,by rw[h1,h3];simp,?_⟩
   rw[ayH,h2,h4];rfl
  ·cases h
 | .idx _::_,_,_,h=>by simp[eQ]at h
theorem Dh{p:List Step}{τ e:Ty}(h:eQ p τ (.slice e)=true):τ.cy[bQ p τ]? =some (.slice none 0 0):=by
 obtain⟨l,m,h1,h2⟩:=vo h
 rw[h1,azu (by omega),h2,aA6];rfl
theorem bP{b:Bool}{K:Option α}(h:cond b K none=some r):b=true∧K=some r:=by
 cases b
 ·cases h
 ·exact⟨rfl,h⟩
theorem MR{τ:Ty}{q:List Step}{e:Ty}(h:lkT E τ=some (q,e)):eQ q τ (.slice e)=true:=by
 unfold lkT at h
 split at h
 ·rename_i υ q' e' _ _
  cases hd:decide (υ=τ)<;>rw[hd]at h
  ·cases h
  ·simp only[ayz]at h
   cases hp:eQ q' τ (.slice e')<;>rw[hp]at h
   ·cases h
   ·cases h;exact hp
 ·cases h
theorem pY{τ:Ty}{id:Nat}{q:List Step}{e:Ty}(h:EG E τ id=some (q,e)):eQ q τ (.slice e)=true:=by
 unfold EG at h
 split at h
 ·exact MR (bP h).2
 ·cases h
theorem Ai{H:Nat→Option aS}{id:Nat}{τ:Ty}{x:τ.den}{q:List Step}{e:Ty}{K:fO α}(h:yS H id τ x q e K=some r):H id=none∧H (id+1)=none∧K (.fW id []) [id,id+1] [(id,some (.ej τ x q (id+1))),(id+1,some (.own e []))]=some r:=by
 unfold yS at h
 obtain⟨h1,h⟩:=iF h
 obtain⟨h2,h⟩:=iF h
 exact⟨h1,h2,h⟩
theorem N9{H:Nat→Option aS}{i j:Nat}{u v:Option aS}(h:i≠j):bz (bz H i u) j v=bz (bz H j v) i u:=by
 funext k
 by_cases hi:k=i
 ·subst hi;rw[an _ _ h,al,al]
 ·by_cases hj:k=j
  ·subst hj;rw[al,an _ _ hi,al]
  ·rw[an _ _ hj,an _ _ hi,an _ _ hi,an _ _ hj]
theorem ur{H:Nat→Option aS}{i:Nat}{u v:Option aS}:bz (bz H i u) i v=bz H i v:=by
 funext k
 by_cases hi:k=i
 ·subst hi;rw[al,al]
 ·rw[an _ _ hi,an _ _ hi,an _ _ hi]
theorem Tr.Qy{H:Nat→Option aS}(h:Mem c H w M ν){id k:Nat}(hk:H k=none){τ:Ty}{x:τ.den}(aV:H id=some (.obj τ x)){b:Nat}{cs:Array Value}{t:TypeId}(hb:ν id= .pointer (some ⟨b,0,none⟩))(hg:w.heap[b]? =some (.cells cs t (0,0)))
  {q:List Step} {e:Ty} (hq:eQ q τ (.slice e)=true) {ad:Option Addr} (hz:cs.toList[bQ q τ]? =some (.slice ad 0 0)):
  Tr c H w M ν (ch H [(id,some (.ej τ x q k)),(k,some (.own e []))]) w M (cF ν k (.slice ad 0 0)):=by
 have gq:k≠id:=fun e=>by rw[e,aV]at hk;cases hk
 have h2:=Tr.nothing h hk e ad
 have hd2:bz H k (some (.own e [])) id=some (.obj τ x):=by rw[an _ _ (aAu gq)];exact aV
 have hν:cF ν k (.slice ad 0 0) id= .pointer (some ⟨b,0,none⟩):=by unfold cF;rw[ayE (aAu gq)];exact hb
 have hν1:cF ν k (.slice ad 0 0) k= .slice ad 0 0:=by simp[cF]
 have he:=h2.mem.jr id _ hd2
 simp only[ER]at he
 obtain⟨b',cs',t',dN,hg',hM,iu⟩:=he
 rw[hν]at dN;cases dN
 rw[hg]at hg';cases hg'
 have h3:=Tr.N6 h2.mem hd2 trivial (e':= .ej τ x q k) trivial rfl (fun _ _=>by simp) (by
   rw[hν];simp only[ER]
   exact⟨_,cs,t,cs.toList,.slice ad 0 0,rfl,hg,hM,iu,(GM hz).symm,rfl,e,hq⟩)
  (fun τ' x' p' j' hl=>by
   cases hl
   refine⟨by rw[al];simp,_,hν,?_⟩
   rw[hν1,cell_of hg,←azh];exact hz)
 rw[N9 (i:=k) (j:=id) gq]at h3
 exact h2.trans h3
theorem Tr.yS{H:Nat→Option aS}(h:Mem c H w M ν){id:Nat}(aV:H id=none)(mG:H (id+1)=none)(t:TypeId){τ:Ty}{cs:Array Value}{x:τ.den}(hr:Rd w M τ cs.toList x){q:List Step}{e:Ty}(hq:eQ q τ (.slice e)=true){ad:Option Addr}
  (hz:cs.toList[bQ q τ]? =some (.slice ad 0 0)):
  ∃M' ν',Tr c H w M ν (ch H [(id,some (.ej τ x q (id+1))),(id+1,some (.own e []))]) (w.alloc (.cells cs t)) M' ν'∧ν' id= .pointer (some ⟨w.heap.size,0,none⟩):=by
 have h1:=Tr.var h aV t hr
 have h2:=Tr.Qy h1.mem (id:=id) (k:=id+1) (by rw[an _ _ (by omega)];exact mG) (al _ _ _) (by simp[cF]) (Ad w _) hq hz
 have e1:ch (bz H id (some (.obj τ x))) [(id,some (.ej τ x q (id+1))),(id+1,some (.own e []))]=ch H [(id,some (.ej τ x q (id+1))),(id+1,some (.own e []))]:=by
  show bz (bz (bz H id _) id _) (id+1) _=bz (bz H id _) (id+1) _
  rw[ur]
 rw[e1]at h2
 exact⟨_,_,h1.trans h2,by simp[cF]⟩
theorem Qz(hE:EnvTy P E)(hc:Core c σ a.tmps w M ν){t:TypeId}(ho:o.op= .alloc t){K:fO α}{τ:Ty}(ht:E.ty t=some τ){id:Nat}
  (h:(match EG E τ id with
   |some (q,e)=>yS σ.H id τ τ.zero q e K
   |none=>nL σ.H id (.obj τ τ.zero) (K (.fW id []) [id] [(id,some (.obj τ τ.zero))]))=some r) (hn:eh c σ a o w M ν K r next):o.wp P a w next Q:=by
 obtain⟨i,hi,hs,hz,_⟩:=(hE.ty t τ ht).base
 have hr:Rd w M τ (bU τ τ.cy).cells.toList τ.zero:=by rw[eW];exact Rd.zero w M τ
 split at h
 ·rename_i q e pT
  obtain⟨aV,mG,h⟩:=Ai h
  obtain⟨M',ν',fg,hν⟩:=Tr.yS hc.mem aV mG t hr (pY pT) (by rw[eW];exact Dh (pY pT))
  refine aN (vm ho hi hz w) (hn _ _ _ _ _ M' ν' h fg ?_)
  exact VR.Qx (by show bz _ (id+1) _ id=_;rw[an _ _ (by omega),al]) hν
 ·obtain⟨aV,h⟩:=iF h
  refine aN (vm ho hi hz w) (hn _ _ _ _ _ _ _ h (Tr.var hc.mem aV t hr) (VR.aa3 (al _ _ _) (by simp[cF])))
theorem MS(hE:EnvTy P E)(hc:Core c σ a.tmps w M ν){t:TypeId}{x:Operand}(ho:o.op= .box t x){K:fO α}{τ:Ty}{id:Nat}
  (h:iZ true (σ.ρ x) σ.H τ (fun y rd ups=>nL σ.H id (.obj τ y) (K (.fW id []) (id::rd) (ups++[(id,some (.obj τ y))])))=some r) (hn:eh c σ a o w M ν K r next):o.wp P a w next Q:=by
 obtain⟨y,rd,ups,M',h,fg,hV,hz,_⟩:=kW (.refl _) hc.mem (hc.ev x) h
 obtain⟨aV,h⟩:=iF h
 have ach:ch σ.H ups id=none:=hz.none aV
 have sd:=fg.trans (Tr.var fg.mem ach t hV.cells)
 refine aN (Ae ho w) (hn _ _ _ _ _ (fun b=>M' b∨b=w.heap.size) (cF ν id (.pointer (some ⟨w.heap.size,0,none⟩))) h ?_ ?_)
 ·rw[eu];exact sd
 ·rw[eu];exact VR.aa3 (al _ _ _) (by simp[cF])
theorem aci(hE:EnvTy P E)(hc:Core c σ a.tmps w M ν){t:TypeId}{x:Operand}(ho:o.op= .box t x){K:fO α}{τ:Ty}{id:Nat}
  (h:(match EG E τ id,σ.ρ x with
   |some ([.gX m],e),.EF υ y n=>cond (Nat.beq m n) (cv υ τ y fun y=>yS σ.H id τ y [.gX m] e K) (iZ true (σ.ρ x) σ.H τ (fun y rd ups=>nL σ.H id (.obj τ y) (K (.fW id []) (id::rd) (ups++[(id,some (.obj τ y))]))))
   |_,_=>iZ true (σ.ρ x) σ.H τ (fun y rd ups=>nL σ.H id (.obj τ y) (K (.fW id []) (id::rd) (ups++[(id,some (.obj τ y))]))))=some r) (hn:eh c σ a o w M ν K r next):o.wp P a w next Q:=by
 split at h
 ·rename_i m e υ y n pT hx
  cases hb:Nat.beq m n
  ·rw[hb]at h
   exact MS hE hc ho h hn
  ·rw[hb]at h
   have Aj:=ay9 hb
   subst Aj
   simp only[ayz]at h
   obtain⟨e1,h⟩:=bg h
   subst e1
   obtain⟨aV,mG,h⟩:=Ai h
   have hv:=hc.ev x
   rw[hx]at hv
   simp only[VR]at hv
   obtain⟨hV,cs,ad,hva,hz⟩:=hv
   have EO:(a.eval x).cells.toList=cs.toList:=by rw[hva];rfl
   obtain⟨M',ν',fg,hν⟩:=Tr.yS hc.mem aV mG t hV.cells (pY pT) (ad:=ad) (by rw[EO];simpa [bQ]using hz)
   refine aN (Ae ho w) (hn _ _ _ _ _ M' ν' h fg ?_)
   exact VR.Qx (by show bz _ (id+1) _ id=_;rw[an _ _ (by omega),al]) hν
 ·exact MS hE hc ho h hn
theorem qy{i:Int}{n:Nat}(h:aI i n=true):0≤i∧i<(n:Int):=by rw[KM]at h;simpa using h
theorem js{b:Bool}{K:Option α}(h:cond b none K=some r):b=false∧K=some r:=by
 cases b
 ·exact⟨rfl,h⟩
 ·cases h
theorem xQ(hm:Mem c σ.H w M ν){x:bb}{u:Value}(hv:VR w M σ.H ν x u){K:(υ:Ty)→υ.den→List Nat→Option α}(h:ir x σ.H K=some r):
  ∃υ y rd,K υ y rd=some r∧ ∃b off cs,u= .pointer (some ⟨b,off,none⟩)∧At w b off cs∧Rd w M υ cs y:=by
 unfold ir at h
 split at h
 ·simp only[VR]at hv
  obtain⟨b,off,rfl,_,_,cs,ha,hr⟩:=hv
  exact⟨_,_,_,h,b,off,cs,rfl,ha,hr⟩
 ·rename_i id p
  simp only[VR]at hv
  obtain⟨e,he,kJ⟩:=hv
  have jI:=hm.jr id e he
  rw[he]at h
  cases e with
  |obj τ x=>
   obtain⟨υ,y,o',hp,hK⟩:=gK h
   simp only[AR]at kJ
   obtain⟨hi,b,hb,rfl⟩:=kJ
   simp only[ER]at jI
   obtain⟨b',cs,t,dN,hg,_,hr⟩:=jI
   rw[hb]at dN;cases dN
   have:=hp.eq.2
   subst this
   exact⟨υ,y,_,hK,b,_,_,rfl,At.of_block hg _ _,hp.rd hi hr⟩
  |own e l=>
   simp only[AR]at kJ
   obtain⟨i,q,rfl,CB,hi,b,n,cp,hb,rfl⟩:=kJ
   obtain⟨υ,y,o',hp,hK⟩:=gK h
   simp only[ER]at jI
   rcases jI with⟨rfl,_⟩|⟨b',cs,t,cap,dN,hg,_,Qg,hl,Ac,hs,hr⟩
   ·simp at CB
   ·rw[hb]at dN;cases dN
    have:=hp.eq.2
    subst this
    have h1:=hr i CB
    rw[←g7 l i e.zero CB]at h1
    have h2:=hp.rd hi h1
    have h3:=hp.bound hi
    rw[aAJ,azR,aAK,azF (by omega)]at h2
    exact⟨υ,y,_,hK,b,_,_,rfl,At.of_block hg _ _,h2⟩
  |lF e l=>
   simp only[AR]at kJ
   obtain⟨i,q,rfl,CB,hi,b,n,cp,hb,rfl⟩:=kJ
   obtain⟨υ,y,o',hp,hK⟩:=gK h
   simp only[ER]at jI
   have iu:=jI.1
   simp only[Rd,azq,az4]at iu
   obtain⟨a0,cap,ha0,_,hr⟩:=iu
   obtain⟨b',off,rfl,_,_,cs,lG,T2⟩:=hr i CB
   rw[hb]at ha0;cases ha0
   have:=hp.eq.2
   subst this
   rw[azH]at lG
   have ahy:Rd w M e cs (List.getD l i e.zero):=by rw[g7 l i e.zero CB];exact T2
   have h2:=hp.rd hi ahy
   have h3:=hp.bound hi
   have Uv:=ahy.length
   refine⟨υ,y,_,hK,b,_,_,rfl,?_,h2⟩
   intro j v hj
   rw[azJ]at hj
   split at hj
   ·rw[azK]at hj
    have:=lG _ v hj
    rwa [←aAH]at this
   ·cases hj
  |ej _ _ _ _=>cases h
  |gone=>cases h
 ·cases h
theorem Mem.linked{H:Nat→Option aS}(hm:Mem c H w M ν){id:Nat}{τ:Ty}{x:τ.den}{q:List Step}{j:Nat}(aV:H id=some (.ej τ x q j)):
  ∃b cs t oX e,ν id= .pointer (some ⟨b,0,none⟩)∧w.heap[b]? =some (.cells cs t (0,0))∧M b∧Rd w M τ oX x∧cs.toList=dz oX (bQ q τ) [ν j]∧(ν j).oneCell'=true∧eQ q τ (.slice e)=true∧bQ q τ<oX.length∧H j≠none:=by
 have jI:=hm.jr id _ aV
 simp only[ER]at jI
 obtain⟨b,cs,t,oX,u,hb,hg,hM,hr,EO,h1,e,hq⟩:=jI
 obtain⟨hj,b',dN,MT⟩:=hm.ej id _ _ _ _ aV
 rw[hb]at dN;cases dN
 obtain⟨y,o,hp⟩:=pR hq x
 have dH:bQ q τ<oX.length:=by
  have:=hp.bound (g8 hq).1
  have h2:=hp.eq.2
  have h3:=hr.length
  have:(Ty.slice e).size=1:=rfl
  omega
 have hu:u=ν j:=by
  rw[cell_of hg,←azh,EO,zB dH]at MT
  exact aB0 MT
 subst hu
 exact⟨b,cs,t,oX,e,hb,hg,hM,hr,EO,h1,hq,dH,hj⟩
theorem uu{H:Nat→Option aS}(hm:Mem c H w M ν){id:Nat}{τ:Ty}{x:τ.den}{q:List Step}{j:Nat}(aV:H id=some (.ej τ x q j)){k:τ.den→fN→Option α}(h:yR j q τ x H k=some r):
  ∃z ups M',k z ups=some r∧Tr c H w M ν (ch H ups) w M' ν∧Fz H (ch H ups)∧((∃e l,H j=some (.lF e l)∧ups=[])∨ ∃e l,H j=some (.own e l)∧ups=[(j,some (.lF e l))])∧ ∃b cs t,ν id= .pointer (some ⟨b,0,none⟩)∧w.heap[b]? =some (.cells cs t (0,0))∧M' b∧Rd w M' τ cs.toList z:=by
 obtain⟨b,cs,t,oX,e0,hb,hg,hM,hr,EO,h1,hq,dH,hj⟩:=hm.linked aV
 have KR:=(g8 hq).1
 unfold yR at h
 split at h
 ·rename_i e l Cr
  obtain⟨z,hz,CC,Cq,tG⟩:=lS h
  obtain⟨M',fg,hV,hM'⟩:=Tr.freeze hm Cr
  refine⟨z,_,M',hz,fg,fun i=> ?_,.inr ⟨e,l,Cr,rfl⟩,b,cs,t,hb,hg,?_,?_⟩
  ·by_cases hi:i=j
   ·subst hi;exact .inr ⟨e,l,Cr,al _ _ _⟩
   ·exact .inl (an _ _ hi)
  ·refine(hM' b).2 ⟨hM,fun hjb=> ?_⟩
   have gq:j≠id:=fun e=>by rw[e,aV]at Cr;cases Cr
   exact hm.wO j id _ _ b gq Cr trivial aV trivial hjb (by rw[hb];rfl)
  ·rw[EO]
   exact tG w M' oX [ν j] KR (hr.bD fg.bD) (V.slice.1 hV)
 ·rename_i e l Cr
  obtain⟨z,hz,CC,Cq,tG⟩:=lS h
  have jI:=hm.jr j _ Cr
  simp only[ER]at jI
  refine⟨z,_,M,hz,.refl hm,.refl H,.inl ⟨e,l,Cr,rfl⟩,b,cs,t,hb,hg,hM,?_⟩
  rw[EO]
  exact tG w M oX [ν j] KR hr jI.1
 ·cases h
theorem agR{τ υ:Ty}{t:TypeId}(hE:EnvTy P E)(ht:E.ty t=some τ)(h:eQ ([]:List Step) υ τ=true):υ=τ:=ayV h
theorem Rd.ack{e:Ty}{v:Value}{cs:List Value}{l:List e.den}(h:Rd w M (.slice e) cs l): ∃a n cap,cs=[.slice a n cap]:=by
 simp only[Rd]at h
 obtain⟨a,cap,rfl,_⟩:=h
 exact⟨a,_,cap,rfl⟩
theorem CD{ρ:Operand→Value}{t:TypeId}{x:Operand}(ho:o.op= .load t x){τ:Ty}(h:g6 P τ t)(ha:τ.isAgg=false){b off:Nat}{v:Value}(hx:ρ x= .pointer (some ⟨b,off,none⟩))(hc:w.cell? ⟨b,off,none⟩=some v):
  (execOp ρ o).run P w= .ok (.value v) w:=by
 have:(loadVar t ⟨b,off,none⟩).run P w= .ok v w:=by
  simp[loadVar,pV h,ha,load,Sem.run,hc]
 simp[execOp,ho,hx,Instr.loadAt,Instr.sureAddr,this]
theorem GU(hE:EnvTy P E)(hc:Core c σ a.tmps w M ν){t:TypeId}{x:Operand}(ho:o.op= .load t x){K:fO α}{τ:Ty}(ht:E.ty t=some τ)
  (h:ir (σ.ρ x) σ.H (fun υ y rd=>cv υ τ y fun z=>K (.val τ z) rd [])=some r) (hn:eh c σ a o w M ν K r next):o.wp P a w next Q:=by
 obtain⟨υ,y,rd,h,b,off,cs,hu,lG,hr⟩:=xQ hc.mem (hc.ev x) h
 obtain⟨e,h⟩:=bg h
 subst e
 refine aN (sa ho (hE.ty t _ ht) hu lG hr) (hn _ _ _ _ _ _ _ h (.refl hc.mem) ?_)
 simp only[VR]
 exact V.bU hr
theorem Ux(hE:EnvTy P E)(hc:Core c σ a.tmps w M ν){t:TypeId}{x:Operand}(ho:o.op= .load t x){K:fO α}{τ:Ty}(ht:E.ty t=some τ)
  (h:ry τ (σ.ρ x) σ.H K=some r) (hn:eh c σ a o w M ν K r next):o.wp P a w next Q:=by
 unfold ry at h
 simp only at h
 split at h
 ·rename_i id p hx
  split at h
  ·rename_i υ z q j aV
   have hv:=hc.ev x
   rw[hx]at hv
   simp only[VR]at hv
   obtain⟨e1,KS,kJ⟩:=hv
   rw[aV]at KS;cases KS
   simp only[AR]at kJ
   obtain⟨hi,b,hb,hu⟩:=kJ
   obtain⟨b',cs,te,oX,e0,dN,hg,hM,hr,EO,h1,hq,dH,hj⟩:=hc.mem.linked aV
   rw[hb]at dN;cases dN
   cases hp:GA p q
   ·rw[hp]at h
    cases Cn:tB p q
    ·
     rw[Cn]at h
     simp only[ayB]at h
     obtain⟨υ',y,o',tH,h⟩:=gK h
     obtain⟨e2,h⟩:=bg h
     subst e2
     have hap:=tH.apart hi hq Cn
     have Ut:=tH.eq.2
     subst Ut
     have Cq:=tH.bound hi
     have hlen:=hr.length
     have iu:Rd w M υ' ((cs.toList.drop (bQ p υ)).take υ'.size) y:=by
      rw[EO,EL (by simp only[ayA];omega) (by simp only[ayA];omega)]
      exact tH.rd hi hr
     refine aN (sa ho (hE.ty t _ ht) hu (At.of_block hg _ _) iu) (hn _ _ _ _ _ M ν h (.refl hc.mem) ?_)
     simp only[VR]
     exact V.bU iu
    ·
     rw[Cn]at h
     simp only[ayB,ayz]at h
     obtain⟨z',ups,M',h,fg,_,_,b2,cs2,t2,tF,KT,EP,Gr⟩:=uu hc.mem aV h
     rw[hb]at tF;cases tF
     rw[hg]at KT;cases KT
     obtain⟨υ',y,o',tH,h⟩:=gK h
     obtain⟨e2,h⟩:=bg h
     subst e2
     have Ut:=tH.eq.2
     subst Ut
     have iu:=tH.rd hi Gr
     refine aN (sa ho (hE.ty t _ ht) hu (At.of_block hg _ _) iu) (hn _ _ _ _ _ M' ν h fg ?_)
     simp only[VR]
     exact V.bU iu
   ·
    rw[hp]at h
    have:=wW hp
    subst this
    simp only[ayz]at h
    obtain⟨hpq,hK⟩:=bP h
    have hτ:τ= .slice e0:=(g8 hpq).2.symm.trans (g8 hq).2
    subst hτ
    have MT:w.cell? ⟨b,bQ p υ,none⟩=some (ν j):=by rw[cell_of hg,←azh,EO,zB dH]
    refine aN (CD ho (hE.ty t _ ht) rfl hu MT) (hn _ _ _ _ _ M ν hK (.refl hc.mem) ?_)
    simp only[VR]
    exact⟨hj,trivial⟩
  ·exact GU hE hc ho ht h hn
 ·exact GU hE hc ho ht h hn
end VM
end
section
namespace VM
open Go
variable{P:Program}{E:Env}{o:Oper}{a:Act}{w:World}{M:Nat→Prop}{ν:Nat→Value}{σ:St}{c:Ctx}{α:Type}{r:α}{next:Act→World→Prop}{Q:Exit→Act→World→Prop}
theorem Fz.own{H H1:Nat→Option aS}(h:Fz H H1){i:Nat}{e:Ty}{l:List e.den}(hi:H i=some (.own e l)):H1 i=some (.own e l)∨H1 i=some (.lF e l):=by
 rcases h i with h'|⟨e',l',h1,h2⟩
 ·exact .inl (by rw[h',hi])
 ·rw[hi]at h1;cases h1;exact .inr h2
theorem Oa(hE:EnvTy P E)(hc:Core c σ a.tmps w M ν){t:TypeId}{x y:Operand}(ho:o.op= .store t x y){K:fO α}{τ:Ty}(ht:E.ty t=some τ)
  (h:jb τ (σ.ρ x) (σ.ρ y) σ.H K=some r) (hn:eh c σ a o w M ν K r next):o.wp P a w next Q:=by
 unfold jb at h
 split at h
 ·rename_i id p hx
  obtain⟨z,rd,ups,M',h,fg,hV,hz,iu⟩:=kW (.refl _) hc.mem (hc.ev y) h
  have hv:=hc.ev x
  rw[hx]at hv
  have hvz:=VR.bD fg.bD fg.goes hv
  have vp:=hE.ty t τ ht
  have ES:=hV.cells.length
  rw[ayM]at ES
  split at h
  ·rename_i υ x0 aV
   have mG:=hz.obj aV
   obtain⟨x1,hK,CC,Cq,tG⟩:=lS h
   simp only[VR]at hvz
   obtain⟨e1,KS,kJ⟩:=hvz
   rw[mG]at KS;cases KS
   simp only[AR]at kJ
   obtain⟨hi,b,hb,hu⟩:=kJ
   have jI:=fg.mem.jr id _ mG
   simp only[ER]at jI
   obtain⟨b',cs,te,dN,hg,hM,hr⟩:=jI
   rw[hb]at dN;cases dN
   have Cq:=Cq hi
   have Uv:=hr.length
   rw[ayM]at Uv
   have cT:=j1 (P:=P) ho vp hu hg ES (by omega) hV.cells.lH
   rw[ayM]at cT
   have sd:Tr c (ch σ.H ups) w M' ν (bz (ch σ.H ups) id (some (.obj υ x1))) (w.setRow b (dz cs.toList (bQ p υ) (a.eval y).cells.toList).toArray) M' ν:=by
    refine Tr.write (e':= .obj υ x1) fg.mem mG trivial trivial rfl (by rw[hb];rfl) hg fun Kp hk wZ=> ?_
    simp only[ER]
    refine⟨b,_,te,hb,setRow_heap w b cs _ te _ hg,wZ,?_⟩
    exact(tG w M' cs.toList _ hi hr hV.cells).bD hk
   refine nR cT ?_
   refine hn _ _ _ _ _ M' ν hK ?_ (by simp[VR])
   rw[eu]
   have:=fg.trans sd
   unfold dz at this
   rw[ayM]at this
   exact this
  ·rename_i e l aV
   split at h
   ·rename_i i q h0
    obtain⟨yY,h⟩:=js h
    have mG:ch σ.H ups id=some (.own e l):=by rw[iu id yY];exact aV
    obtain⟨y1,hK,CC,Cq,tG⟩:=lS h
    simp only[VR]at hvz
    obtain⟨e1,KS,kJ⟩:=hvz
    rw[mG]at KS;cases KS
    simp only[AR]at kJ
    obtain⟨i',q',hpq,CB,hi,b,n,cp,hb,hu⟩:=kJ
    cases hpq
    have jI:=fg.mem.jr id _ mG
    simp only[ER]at jI
    rcases jI with⟨rfl,_⟩|⟨b',cs,te,cap,dN,hg,hM,Qg,hl,Ac,hs,hr⟩
    ·simp at CB
    ·rw[hb]at dN;cases dN
     have Cq:=Cq hi
     have pS:=c8 (s:=e.size) CB
     have vl:l.length*e.size≤cp*e.size:=azy _ hl
     have cT:=j1 (P:=P) ho vp hu hg ES (by omega) hV.cells.lH
     rw[ayM]at cT
     have hri:=hr i CB
     rw[←g7 l i e.zero CB]at hri
     have oG:=tG w M' _ _ hi hri hV.cells
     have hch:((cs.toList.drop (i*e.size)).take e.size).length=e.size:=hri.length
     have Uy:dz cs.toList (i*e.size) (dz ((cs.toList.drop (i*e.size)).take e.size) (bQ q e) (a.eval y).cells.toList)=dz cs.toList (i*e.size+bQ q e) (a.eval y).cells.toList:=by
      have T1:=oG.length
      have e1:cs.toList=cs.toList.take (i*e.size)++(((cs.toList.drop (i*e.size)).take e.size)++cs.toList.drop (i*e.size+e.size)):=by
       rw[←azR,azg,azg]
      have dH:(cs.toList.take (i*e.size)).length=i*e.size:=by rw[ayX,ayM];omega
      conv=>rhs;rw[e1]
      rw[show i*e.size+bQ q e=(cs.toList.take (i*e.size)).length+bQ q e from by rw[dH],sY,vj (by rw[hch,ayM];omega)]
      generalize dz ((cs.toList.drop (i*e.size)).take e.size) (bQ q e) (a.eval y).cells.toList=m at T1 ⊢
      unfold dz
      rw[T1,ayP]
     have sd:Tr c (ch σ.H ups) w M' ν (bz (ch σ.H ups) id (some (.own e (List.set l i y1)))) (w.setRow b (dz cs.toList (i*e.size+bQ q e) (a.eval y).cells.toList).toArray) M' ν:=by
      refine Tr.write (e':= .own e (List.set l i y1)) fg.mem mG trivial trivial ⟨rfl,by rw[ayT]⟩ (by rw[hb];simp[eJ];omega) hg fun Kp hk wZ=> ?_
      simp only[ER]
      refine .inr ⟨b,_,te,cp,by rw[ayT];exact hb,setRow_heap w b cs _ te _ hg,wZ,Qg,by rw[ayT];exact hl,Ac,?_,?_⟩
      ·rw[←Uy,azA,eE (by rw[oG.length,ayM];omega),ayM];exact hs
      ·have h9:cs.toList.length=cp*e.size:=by rw[ayM,hs]
       have h10:=nQ.set (w:=w) (M:=M') (cs:=cs.toList) (l:=l) hr (by rw[h9];exact vl) CB oG
       rw[Uy]at h10
       exact fun j hj=>(h10 j hj).bD hk
     refine nR cT ?_
     refine hn _ _ _ _ _ M' ν hK ?_ (by simp[VR])
     rw[eu]
     have:=fg.trans sd
     unfold dz at this
     rw[ayM]at this
     exact this
   ·cases h
  ·cases h
 ·cases h
theorem Fz.ej{H H1:Nat→Option aS}(h:Fz H H1){i:Nat}{τ:Ty}{x:τ.den}{p:List Step}{j:Nat}(hi:H i=some (.ej τ x p j)):H1 i=some (.ej τ x p j):=by
 rcases h i with h'|⟨e',l',h1,h2⟩
 ·rw[h',hi]
 ·rw[hi]at h1;cases h1
theorem uv{β:Type}{l a:List β}{o:Nat}(hl:o+a.length≤l.length)(i:Nat):(dz l o a)[i]? =if o≤i∧i<o+a.length then a[i-o]? else l[i]? :=by
 unfold dz
 by_cases h1:i<o
 ·rw[ayE (by omega),ayP,azN (by simp;omega),azJ,ayF h1]
 ·by_cases h2:i<o+a.length
  ·rw[ayF (by omega),azN (by simp;omega),azu (by simp;omega)]
   simp[azF (show o≤l.length by omega)]
  ·rw[ayE (by omega),azu (by simp;omega)]
   simp only[ayH,ayX,azF (show o≤l.length by omega),azK]
   congr 1;omega
theorem GV{β:Type}{l a b:List β}{o o':Nat}(h:o'≤o∧o+a.length≤o'+b.length)(h1:o+a.length≤l.length)(h2:o'+b.length≤l.length):dz (dz l o a) o' b=dz l o' b:=by
 have l1:=eE (a:=l) (o:=o) (new:=a) h1
 apply aBk
 intro i
 rw[uv (by omega),uv (by omega),uv (by omega)]
 by_cases c1:o'≤i∧i<o'+b.length
 ·rw[ayF c1,ayF c1]
 ·rw[ayE c1,ayE c1,ayE (by omega)]
theorem Di{β:Type}{l:List β}{o:Nat}{u v:β}(h:o<l.length):dz (dz l o [u]) o [v]=dz l o [v]:=
 GV (by simp) (by simp;omega) (by simp;omega)
theorem QA{β:Type}{l a b:List β}{o o':Nat}(h:o+a.length≤o'∨o'+b.length≤o)(h1:o+a.length≤l.length)(h2:o'+b.length≤l.length):dz (dz l o a) o' b=dz (dz l o' b) o a:=by
 have l1:=eE (a:=l) (o:=o) (new:=a) h1
 have l2:=eE (a:=l) (o:=o') (new:=b) h2
 apply aBk
 intro i
 rw[uv (by omega),uv (by omega),uv (by omega),uv (by omega)]
 by_cases c1:o'≤i∧i<o'+b.length
 ·rw[ayF c1,ayE (by omega),ayF c1]
 ·rw[ayE c1]
  by_cases c2:o≤i∧i<o+a.length
  ·rw[ayF c2,ayF c2]
  ·rw[ayE c2,ayE c2,ayE c1]
theorem GW{m:(υ:Ty)→υ.den→(υ.den→Option α)→Option α}: ∀{τ:Ty} {x:τ.den} {n:Nat} {k:τ.den→Option α},jX τ x n m k=some r→ ∃υ y o k',yT τ x n υ y o∧m υ y k'=some r:=fun h=>by
 obtain⟨υ,y,o,k',h1,h2,_⟩:=o0 h
 exact⟨υ,y,o,k',h1,h2⟩
theorem Ak{υ:Ty}{u:υ.den}: ∀{p:List Step} {τ:Ty} {x:τ.den} {k:τ.den→Option α},rI υ u p τ x k=some r→ ∃y o,EK p τ x υ y o
 |[],τ,x,k,h=>by
  obtain⟨e,_⟩:=bg (h:cv υ τ u k=some r)
  subst e
  exact⟨x,0,.nil x⟩
 | .gX n::p,τ,x,k,h=>by
  obtain⟨υ',y,o,k',hf,hm⟩:=GW (h:jX τ x n _ k=some r)
  obtain⟨y',o',hp⟩:=Ak (k:=k') hm
  exact⟨y',_,.gX hf hp⟩
 | .idx i::p,τ,x,k,h=>by
  cases τ with
  |arr n e=>
   obtain⟨y',o',hp⟩:=Ak (p:=p) (τ:=e) (x:=List.getD x i e.zero) (k:=fun z=>k (List.set x i z)) h
   exact⟨y',_,.idx hp⟩
  |_=>simp[rI,zx]at h
theorem Dj: ∀{p q:List Step} {τ e:Ty},tB p q=true→eQ q τ (.slice e)=true→bQ p τ≤bQ q τ∧bQ q τ+1≤bQ p τ+(Cy p τ).size
 |[],q,τ,e,_,hq=>by
  obtain⟨_,_,tH⟩:=pR hq τ.zero
  have:=tH.bound (g8 hq).1
  have h2:=tH.eq.2
  have:(Ty.slice e).size=1:=rfl
  simp only[bQ,Cy]
  omega
 | .gX a::p,.gX b::q,τ,e,hp,hq=>by
  simp only[tB,ayQ]at hp
  have:=ay9 hp.1
  subst this
  unfold eQ at hq
  split at hq
  ·rename_i c hc
   obtain⟨_,_,hf⟩:=pQ hc τ.zero
   have:=hf.eq.1
   subst this
   have:=Dj hp.2 hq
   simp only[bQ,Cy]
   omega
  ·cases hq
 | .gX _::_,[],_,_,hp,_| .gX _::_,.idx _::_,_,_,hp,_| .idx _::_,_,_,_,hp,_=>by simp[tB]at hp
theorem ER.Ob{H:Nat→Option aS}(hm:Mem c H w M ν){k:Nat}{e:Ty}{l:List e.den}(hk:H k=some (.own e l)): ∃ad cp,ν k= .slice ad l.length cp:=by
 have:=hm.jr k _ hk
 simp only[ER]at this
 rcases this with⟨rfl,a,hv⟩|⟨b,cs,t,cap,hv,_⟩
 ·exact⟨a,0,hv⟩
 ·exact⟨_,cap,hv⟩
theorem Al(hE:EnvTy P E)(hc:Core c σ a.tmps w M ν){t:TypeId}{x y:Operand}(ho:o.op= .store t x y){K:fO α}{τ:Ty}(ht:E.ty t=some τ){id k:Nat}{q:List Step}{e:Ty}{υ:Ty}{z:υ.den}
  (hx:σ.ρ x= .fW id q) (hy:σ.ρ y= .ref k) {en:aS} (aV:σ.H id=some en) (hen:en.mut) (Dl:en.iE (.ej υ z q k)) (hq:eQ q υ (.slice e)=true)
  (m8: ∃b cs te oX u,ν id= .pointer (some ⟨b,0,none⟩)∧w.heap[b]? =some (.cells cs te (0,0))∧Rd w M υ oX z∧cs.toList=dz oX (bQ q υ) [u])
  (h:xM τ id k e q υ z σ.H K=some r) (hn:eh c σ a o w M ν K r next):o.wp P a w next Q:=by
 unfold xM at h
 split at h
 ·rename_i e' l hk
  obtain⟨e1,h1⟩:=dY h
  clear h
  subst e1
  obtain⟨e2,h2⟩:=dY h1
  clear h1
  subst e2
  obtain⟨z',hK,CC,Cq,tG⟩:=lS h2
  obtain⟨b,cs,te,oX,u,hb,hg,hr,EO⟩:=m8
  have KR:=(g8 hq).1
  obtain⟨ad,cp,hνk⟩:=ER.Ob hc.mem hk
  have yZ:=hc.ev y
  rw[hy]at yZ
  simp only[VR]at yZ
  have yZ:=yZ.2
  have Cq:=Cq KR
  have hlen:=hr.length
  have MU:(Ty.slice e').size=1:=rfl
  have dH:bQ q υ<oX.length:=by omega
  have ES:cs.toList.length=oX.length:=by rw[EO];exact eE (by simp;omega)
  have hv:=hc.ev x
  rw[hx]at hv
  simp only[VR]at hv
  obtain⟨e3,he3,kJ⟩:=hv
  rw[aV]at he3;cases he3
  have kJ:=kJ.iE Dl
  simp only[AR]at kJ
  obtain⟨_,b',dN,hu⟩:=kJ
  rw[hb]at dN;cases dN
  have hyc:(a.eval y).cells.toList=[ν k]:=by rw[yZ,hνk];rfl
  have qp:(a.eval y).cells.size=(Ty.slice e').size:=by rw[←ayM,hyc];rfl
  have cT:=j1 (P:=P) ho (hE.ty t _ ht) hu hg qp (by rw[←ayM];omega) (by rw[hyc,hνk];simp[Value.oneCell'])
  have oG:(cs.toList.take (bQ q υ)++(a.eval y).cells.toList++cs.toList.drop (bQ q υ+(a.eval y).cells.toList.length))=dz oX (bQ q υ) [ν k]:=by
   rw[hyc]
   show dz cs.toList (bQ q υ) [ν k]=_
   rw[EO,Di dH]
  rw[oG]at cT
  have hrz:Rd w M υ (dz oX (bQ q υ) [.slice none 0 0]) z':=tG w M oX [.slice none 0 0] KR hr (Rd.zero w M (.slice e'))
  have fg:Tr c σ.H w M ν (bz σ.H id (some (.ej υ z' q k))) (w.setRow b (dz oX (bQ q υ) [ν k]).toArray) M ν:=by
   refine Tr.write (e':= .ej υ z' q k) hc.mem aV hen trivial (by cases en<;>simp only[aS.iE]at Dl ⊢ <;>exact Dl) (by rw[hb];rfl) hg (fun Kp Am wZ=> ?_) (fun τ' x' p' j' hl=> ?_)
   ·simp only[ER]
    refine⟨b,_,te,dz oX (bQ q υ) [.slice none 0 0],ν k,hb,setRow_heap w b cs _ te _ hg,wZ,hrz.bD Am,?_,by rw[hνk];rfl,e',hq⟩
    rw[Di dH]
   ·cases hl
    refine⟨by rw[hk];simp,b,hb,?_⟩
    rw[cell_of (setRow_heap w b cs _ te _ hg),←azh]
    show(dz oX (bQ q υ) [ν k])[bQ q υ]? =_
    rw[zB dH]
  exact nR cT (hn _ _ _ _ _ M ν hK fg (by simp[VR]))
 ·cases h
theorem An(hE:EnvTy P E)(hc:Core c σ a.tmps w M ν){t:TypeId}{x y:Operand}(ho:o.op= .store t x y){K:fO α}{τ:Ty}(ht:E.ty t=some τ)
  (h:gI E τ (σ.ρ x) (σ.ρ y) σ.H K=some r) (hn:eh c σ a o w M ν K r next):o.wp P a w next Q:=by
 have hold:jb τ (σ.ρ x) (σ.ρ y) σ.H K=some r→o.wp P a w next Q:=fun h=>Oa hE hc ho ht h hn
 unfold gI at h
 simp only at h
 split at h
 ·rename_i id p hx
  have pX:=hx
  split at h
  ·rename_i υ z aV
   split at h
   ·rename_i q e k pT hy
    cases hp:GA p q
    ·rw[hp]at h;exact hold h
    ·rw[hp]at h
     simp only[ayz]at h
     have:=wW hp
     subst this
     have hq:=pY pT
     have jI:=hc.mem.jr id _ aV
     simp only[ER]at jI
     obtain⟨b,cs,te,hb,hg,hM,hr⟩:=jI
     have dH:bQ p υ<cs.toList.length:=by
      obtain⟨_,_,tH⟩:=pR hq z
      have:=tH.bound (g8 hq).1
      have h2:=tH.eq.2
      have:=hr.length
      have:(Ty.slice e).size=1:=rfl
      omega
     refine Al hE hc ho ht hx hy aV trivial rfl hq ⟨b,cs,te,cs.toList,cs.toList[bQ p υ],hb,hg,hr,?_⟩ h hn
     exact(GM (ayG dH)).symm
   ·exact hold h
  ·rename_i υ z q j aV
   obtain⟨b,cs,te,oX,e0,hb,hg,hM,hr,EO,h1,hq,dH,hj⟩:=hc.mem.linked aV
   have vq:iZ true (σ.ρ y) σ.H τ (fun y rd ups=>rI τ y p υ z fun z=>K .any (id::rd) (ups++[(id,some (cond (tB p q) (.obj υ z) (.ej υ z q j)))]))=some r→o.wp P a w next Q:=by
    intro h
    obtain⟨u,rd,ups,M',h,fg,hV,hz,iu⟩:=kW (.refl _) hc.mem (hc.ev y) h
    have mG:=hz.ej aV
    have hv:=hc.ev x
    rw[hx]at hv
    have hvz:=VR.bD fg.bD fg.goes hv
    simp only[VR]at hvz
    obtain⟨e1,KS,kJ⟩:=hvz
    rw[mG]at KS;cases KS
    simp only[AR]at kJ
    obtain⟨hi,b1,kI,hu⟩:=kJ
    rw[hb]at kI;cases kI
    obtain⟨b2,cs2,te2,cs3,e3,tF,KT,EP,Gr,Uz,h12,hq2,ahE,hj2⟩:=fg.mem.linked mG
    rw[hb]at tF;cases tF
    rw[hg]at KT;cases KT
    obtain⟨z',hK,CC,Cq,tG⟩:=lS h
    have Cq:=Cq hi
    have Uv:=Gr.length
    have ES:cs.toList.length=cs3.length:=by rw[Uz];exact eE (by simp;omega)
    have hcy:=hV.cells.length
    rw[ayM]at hcy
    have auF:(a.eval y).cells.toList.length=τ.size:=by rw[ayM];exact hcy
    have cT:=j1 (P:=P) ho (hE.ty t _ ht) hu hg hcy (by rw[←ayM];omega) hV.cells.lH
    have QB:cs.toList.take (bQ p υ)++(a.eval y).cells.toList++cs.toList.drop (bQ p υ+(a.eval y).cells.toList.length)=dz cs.toList (bQ p υ) (a.eval y).cells.toList:=rfl
    rw[QB]at cT
    have hzr:=tG w M' cs3 _ hi Gr hV.cells
    have fin: ∀e',e'.mut→aS.iE (.ej υ z q j) e'→K .any (id::rd) (ups++[(id,some e')])=some r→(∀Kp,dy w M' (w.setRow b (dz cs.toList (bQ p υ) (a.eval y).cells.toList).toArray) Kp→Kp b→ER (w.setRow b (dz cs.toList (bQ p υ) (a.eval y).cells.toList).toArray) Kp (ν id) e')→
      (∀τ' x' p' j',e'= .ej τ' x' p' j'→(ch σ.H ups) j'≠none∧ ∃b',ν id= .pointer (some ⟨b',0,none⟩)∧(w.setRow b (dz cs.toList (bQ p υ) (a.eval y).cells.toList).toArray).cell? ⟨b',bQ p' τ',none⟩=some (ν j'))→o.wp P a w next Q:=by
     intro e' gY Gq hK N5 pT
     have sd:=Tr.write (e':=e') fg.mem mG trivial gY Gq (by rw[hb];rfl) hg N5 pT
     refine nR cT (hn _ _ _ _ _ M' ν hK ?_ (by simp[VR]))
     rw[eu]
     exact fg.trans sd
    cases Cn:tB p q
    ·rw[Cn]at hK
     simp only[ayB]at hK
     obtain⟨yy,oo,tH⟩: ∃y o,EK p υ z τ y o:=Ak h
     have hap:=tH.apart hi hq Cn
     have hoo:=tH.eq.2
     subst hoo
     have aa4:dz cs.toList (bQ p υ) (a.eval y).cells.toList=dz (dz cs3 (bQ p υ) (a.eval y).cells.toList) (bQ q υ) [ν j]:=by
      rw[Uz]
      exact QA (by simp only[ayA];omega) (by simp only[ayA];omega) (by omega)
     have T1:=eE (a:=cs3) (o:=bQ p υ) (new:=(a.eval y).cells.toList) (by omega)
     refine fin (.ej υ z' q j) trivial rfl hK (fun Kp hk wZ=> ?_) (fun τ' x' p' j' hl=> ?_)
     ·simp only[ER]
      exact⟨b,_,te,_,ν j,hb,setRow_heap w b cs _ te _ hg,wZ,hzr.bD hk,aa4,h1,e0,hq⟩
     ·cases hl
      refine⟨hj2,b,hb,?_⟩
      rw[cell_of (setRow_heap w b cs _ te _ hg),←azh]
      show(dz cs.toList (bQ p υ) (a.eval y).cells.toList)[bQ q υ]? =_
      rw[aa4,zB (by omega)]
    ·rw[Cn]at hK
     simp only[ayz]at hK
     refine fin (.obj υ z') trivial rfl hK (fun Kp hk wZ=> ?_) (fun τ' x' p' j' hl=>by cases hl)
     simp only[ER]
     refine⟨b,_,te,hb,setRow_heap w b cs _ te _ hg,wZ,?_⟩
     show Rd _ _ υ (dz cs.toList (bQ p υ) (a.eval y).cells.toList) z'
     have gD:=Dj Cn hq
     rw[CC]at gD
     have ho:dz cs.toList (bQ p υ) (a.eval y).cells.toList=dz cs3 (bQ p υ) (a.eval y).cells.toList:=by
      rw[Uz]
      exact GV (by simp only[ayA];omega) (by simp only[ayA];omega) (by omega)
     have h9:=hzr.bD hk
     rw[←ho]at h9
     exact h9
   split at h
   ·rename_i q' e k pT hy
    cases hp:(GA p q&&GA q q')
    ·rw[hp]at h;exact vq h
    ·rw[hp]at h
     simp only[ayz]at h
     rw[ayQ]at hp
     have:=wW hp.1
     subst this
     have:=wW hp.2
     subst this
     refine Al hE hc ho ht hx hy aV trivial rfl (pY pT) ⟨b,cs,te,oX,ν j,hb,hg,hr,EO⟩ h hn
   ·exact vq h
  ·exact hold h
 ·exact hold h
theorem Oc(hE:EnvTy P E)(hc:Core c σ a.tmps w M ν){t:TypeId}{x y:Operand}(ho:o.op= .store t x y){K:fO α}{τ:Ty}(ht:E.ty t=some τ)
  (h:pA E τ (σ.ρ x) (σ.ρ y) σ.H K=some r) (hn:eh c σ a o w M ν K r next):o.wp P a w next Q:=by
 unfold pA at h
 split at h
 ·rename_i id υ z n hx hy
  split at h
  ·rename_i m e pT
   cases Aj:Nat.beq m n
   ·rw[Aj]at h
    simp only[ayB]at h
    exact An hE hc ho ht h hn
   ·rw[Aj]at h
    simp only[ayz]at h
    have Aj:=ay9 Aj
    subst Aj
    obtain⟨e1,h1⟩:=dY h
    clear h
    subst e1
    have hq:=pY pT
    have yZ:=hc.ev y
    rw[hy]at yZ
    simp only[VR]at yZ
    obtain⟨hV,cs,ad,hva,hz⟩:=yZ
    have hcy:(a.eval y).cells=cs:=by rw[hva];rfl
    obtain⟨en,aV,hen,hK⟩: ∃en:aS,σ.H id=some en∧(∃z0,en= .obj τ z0∨ ∃q j,en= .ej τ z0 q j)∧σ.H (id+2)=none∧K .any [id,id+2] [(id,some (.ej τ z [.gX m] (id+2))),(id+2,some (.own e []))]=some r:=by
     unfold jZ at h1
     split at h1
     ·rename_i υ z0 aV
      obtain⟨e2,h2⟩:=dY h1
      clear h1
      subst e2
      obtain⟨h3,h4⟩:=iF h2
      exact⟨_,aV,⟨z0,.inl rfl⟩,h3,h4⟩
     ·rename_i υ z0 q j aV
      obtain⟨e2,h2⟩:=dY h1
      clear h1
      subst e2
      obtain⟨h3,h4⟩:=iF h2
      exact⟨_,aV,⟨z0,.inr ⟨q,j,rfl⟩⟩,h3,h4⟩
     ·cases h1
     ·cases h1
     ·cases h1
    obtain⟨hk,hK⟩:=hK
    have ano:en.mut:=by rcases hen with⟨z0,rfl|⟨q,j,rfl⟩⟩<;>trivial
    have Dl:en.iE (.obj τ z):=by rcases hen with⟨z0,rfl|⟨q,j,rfl⟩⟩<;>rfl
    obtain⟨b,oX,te,hb,hg,qp⟩: ∃b oX te,ν id= .pointer (some ⟨b,0,none⟩)∧w.heap[b]? =some (.cells oX te (0,0))∧oX.toList.length=τ.size:=by
     rcases hen with⟨z0,rfl|⟨q,j,rfl⟩⟩
     ·have:=hc.mem.jr id _ aV
      simp only[ER]at this
      obtain⟨b,oX,te,h2,h3,_,h5⟩:=this
      exact⟨b,oX,te,h2,h3,h5.length⟩
     ·obtain⟨b,oX,te,vb,_,h2,h3,_,h5,h6,_,_,h7,_⟩:=hc.mem.linked aV
      refine⟨b,oX,te,h2,h3,?_⟩
      rw[h6,eE (by simp only[ayA];omega),h5.length]
    have hv:=hc.ev x
    rw[hx]at hv
    simp only[VR]at hv
    obtain⟨e3,he3,kJ⟩:=hv
    rw[aV]at he3;cases he3
    have kJ:=kJ.iE Dl
    simp only[AR]at kJ
    obtain⟨_,b',dN,hu⟩:=kJ
    rw[hb]at dN;cases dN
    have ES:=hV.cells.length
    have cT:=j1 (P:=P) ho (hE.ty t _ ht) hu hg (by rw[←ayM];exact ES) (by rw[←ayM,qp];simp[bQ]) hV.cells.lH
    have QB:oX.toList.take (bQ [] τ)++(a.eval y).cells.toList++oX.toList.drop (bQ [] τ+(a.eval y).cells.toList.length)=(a.eval y).cells.toList:=by
     simp only[bQ,aAz,ay8,azH]
     rw[azr (by omega),ay2]
    rw[QB]at cT
    have tG:=setRow_heap w b oX (a.eval y).cells.toList.toArray te _ hg
    have fg:=Tr.write (e':= .obj τ z) (new:=(a.eval y).cells.toList.toArray) hc.mem aV ano trivial Dl (by rw[hb];rfl) hg (fun Kp Am wZ=>by
     simp only[ER]
     exact⟨b,_,te,hb,tG,wZ,hV.cells.bD Am⟩)
    have gq:id+2≠id:=by omega
    have sd:=Tr.Qy fg.mem (id:=id) (k:=id+2) (by rw[an _ _ gq];exact hk) (al _ _ _) hb tG hq (ad:=ad) (by rw[hcy];simpa [bQ]using hz)
    have e1:ch (bz σ.H id (some (.obj τ z))) [(id,some (.ej τ z [.gX m] (id+2))),(id+2,some (.own e []))]=ch σ.H [(id,some (.ej τ z [.gX m] (id+2))),(id+2,some (.own e []))]:=by
     show bz (bz (bz σ.H id _) id _) (id+2) _=bz (bz σ.H id _) (id+2) _
     rw[ur]
    rw[e1]at sd
    exact nR cT (hn _ _ _ _ _ _ _ hK (fg.trans sd) (by simp[VR]))
  ·exact An hE hc ho ht h hn
 ·exact An hE hc ho ht h hn
end VM
end
section
namespace VM
open Go
variable{P:Program}{E:Env}{o:Oper}{a:Act}{w:World}{M:Nat→Prop}{ν:Nat→Value}{σ:St}{c:Ctx}{α:Type}{r:α}{next:Act→World→Prop}{Q:Exit→Act→World→Prop}
theorem nb{n:Nat}(h:Nat.beq n 0=false):n≠0:=by rw[←az6,aBU]at h;exact h
theorem At.sub{b off:Nat}{cs:List Value}(h:At w b off cs)(o n:Nat):At w b (off+o) ((cs.drop o).take n):=by
 intro j v hj
 rw[azJ]at hj
 split at hj
 ·rw[azK]at hj
  have:=h _ v hj
  rwa [←aAH]at this
 ·cases hj
def se:aS→List Step→Option Ty
 | .obj τ _,p=>some (Cy p τ)
 | .ej τ _ _ _,p=>some (Cy p τ)
 | .own e _,.idx _::p| .lF e _,.idx _::p=>some (Cy p e)
 |_,_=>none
theorem Ao{id:Nat}{p:List Step}{H:Nat→Option aS}{k:Ty→Option α}(h:jZ id p H k=some r): ∃e υ,H id=some e∧se e p=some υ∧k υ=some r:=by
 unfold jZ at h
 split at h
 ·rename_i τ x aV
  obtain⟨υ,y,o,hp,hk⟩:=gK h
  exact⟨_,υ,aV,by simp[se,hp.eq.1],hk⟩
 ·rename_i τ x _ _ aV
  obtain⟨υ,y,o,hp,hk⟩:=gK h
  exact⟨_,υ,aV,by simp[se,hp.eq.1],hk⟩
 ·rename_i e l aV
  split at h
  ·obtain⟨υ,y,o,hp,hk⟩:=gK h
   exact⟨_,υ,aV,by simp[se,hp.eq.1],hk⟩
  ·cases h
 ·rename_i e l aV
  split at h
  ·obtain⟨υ,y,o,hp,hk⟩:=gK h
   exact⟨_,υ,aV,by simp[se,hp.eq.1],hk⟩
  ·cases h
 ·cases h
theorem AR.step{v:Value}{p:List Step}{u:Value}{e:aS}{υ:Ty}(h:AR v p u e)(ht:se e p=some υ)(s:Step)(hs:tE [s] υ):
  ∃b off,u= .pointer (some ⟨b,off,none⟩)∧AR v (p++[s]) (.pointer (some ⟨b,off+bQ [s] υ,none⟩)) e:=by
 cases e with
 |obj τ x=>
  simp only[se,azz]at ht
  simp only[AR]at h ⊢
  obtain⟨hi,b,hb,rfl⟩:=h
  subst ht
  exact⟨b,_,rfl,(oW p [s] τ).2 ⟨hi,hs⟩,b,hb,by rw[oV]⟩
 |ej τ x _ _=>
  simp only[se,azz]at ht
  simp only[AR]at h ⊢
  obtain⟨hi,b,hb,rfl⟩:=h
  subst ht
  exact⟨b,_,rfl,(oW p [s] τ).2 ⟨hi,hs⟩,b,hb,by rw[oV]⟩
 |own e l=>
  simp only[AR]at h ⊢
  obtain⟨i,q,rfl,CB,hi,b,n,cp,hb,rfl⟩:=h
  simp only[se,azz]at ht
  subst ht
  exact⟨b,_,rfl,i,q++[s],rfl,CB,(oW q [s] e).2 ⟨hi,hs⟩,b,n,cp,hb,by rw[oV,aAH]⟩
 |lF e l=>
  simp only[AR]at h ⊢
  obtain⟨i,q,rfl,CB,hi,b,n,cp,hb,rfl⟩:=h
  simp only[se,azz]at ht
  subst ht
  exact⟨b,_,rfl,i,q++[s],rfl,CB,(oW q [s] e).2 ⟨hi,hs⟩,b,n,cp,hb,by rw[oV,aAH]⟩
 |gone=>simp[se]at ht
theorem w1(hE:EnvTy P E)(hc:Core c σ a.tmps w M ν){t:TypeId}{x:Operand}{n:Nat}(ho:o.op= .fieldAddr t x n){K:fO α}{τ:Ty}(ht:E.ty t=some τ){id:Nat}{p:List Step}(hx:σ.ρ x= .fW id p)
  (h:jZ id p σ.H (fun υ=>jY υ τ (tC τ τ.zero n fun υ' _=>cond (Nat.beq υ'.size 0) none (K (.fW id (p++[.gX n])) [id] [])))=some r) (hn:eh c σ a o w M ν K r next):o.wp P a w next Q:=by
 obtain⟨e,υ,aV,het,h⟩:=Ao h
 obtain⟨he_,h_⟩:=dY h
 clear h
 subst he_
 have h:=h_
 clear h_
 obtain⟨υ',y,of,hf,h⟩:=pP h
 obtain⟨hz,h⟩:=js h
 have hv:=hc.ev x
 rw[hx]at hv
 simp only[VR]at hv
 obtain⟨e',tV,kJ⟩:=hv
 rw[aV]at tV;cases tV
 obtain⟨b,off,hu,acp⟩:=kJ.step het (.gX n) trivial
 obtain⟨fs,f,Ks,hff,hfo,QC⟩:=(hE.ty t υ ht).gX hf
 obtain⟨v,cT,hvv⟩:=pW (P:=P) ho (w:=w) Ks hff QC (nb hz) hu
 refine aN cT (hn _ _ _ _ _ M ν h (.refl hc.mem) ?_)
 simp only[VR]
 refine⟨e,aV,?_⟩
 rw[hvv,hfo,hf.eq.2]
 simpa [bQ]using acp
theorem vr(hE:EnvTy P E)(hc:Core c σ a.tmps w M ν){t:TypeId}{x:Operand}{n:Nat}(ho:o.op= .fieldAddr t x n){K:fO α}{τ:Ty}(ht:E.ty t=some τ){υ:Ty}{z:υ.den}(hx:σ.ρ x= .nK υ z)
  (h:jY υ τ (tC υ z n fun υ y=>cond (Nat.beq υ.size 0) none (K (.nK υ y) [] []))=some r) (hn:eh c σ a o w M ν K r next):o.wp P a w next Q:=by
 obtain⟨he,h1⟩:=dY h
 subst he
 obtain⟨υ',y,of,hf,h⟩:=pP h1
 obtain⟨hz,h⟩:=js h
 have hv:=hc.ev x
 rw[hx]at hv
 simp only[VR]at hv
 obtain⟨b,off,hu,hb,hM,cs,lG,hr⟩:=hv
 obtain⟨fs,f,Ks,hff,hfo,QC⟩:=(hE.ty t υ ht).gX hf
 obtain⟨v,cT,hvv⟩:=pW (P:=P) ho (w:=w) Ks hff QC (nb hz) hu
 refine aN cT (hn _ _ _ _ _ M ν h (.refl hc.mem) ?_)
 simp only[VR]
 exact⟨b,off+f.offset,hvv,hb,hM,_,by rw[hfo];exact lG.sub of υ'.size,hf.rd hr⟩
theorem V.agg{τ:Ty}(ha:τ.isAgg=true){v:Value}{x:τ.den}(h:V w M τ v x): ∃cs,v= .agg cs∧Rd w M τ cs.toList x:=by
 unfold V at h;rw[ayF ha]at h;exact h
theorem yT.agg{τ:Ty}{x:τ.den}{n:Nat}{υ:Ty}{y:υ.den}{o:Nat}(h:yT τ x n υ y o):τ.isAgg=true:=by cases h<;>rfl
theorem QD(hE:EnvTy P E)(hc:Core c σ a.tmps w M ν){t:TypeId}{x:Operand}{n:Nat}(ho:o.op= .field t x n){K:fO α}{τ:Ty}(ht:E.ty t=some τ){υ:Ty}{z:υ.den}(hx:σ.ρ x= .val υ z)
  (h:jY υ τ (tC υ z n fun υ y=>K (.val υ y) [] [])=some r) (hn:eh c σ a o w M ν K r next):o.wp P a w next Q:=by
 obtain⟨he,h1⟩:=dY h
 subst he
 obtain⟨υ',y,of,hf,h⟩:=pP h1
 have hv:=hc.ev x
 rw[hx]at hv
 simp only[VR]at hv
 obtain⟨cs,hu,hr⟩:=hv.agg hf.agg
 obtain⟨fs,f,Ks,hff,hfo,QC⟩:=(hE.ty t υ ht).gX hf
 have dg:=hf.rd hr
 refine aN (EN ho Ks hff QC hu (by rw[hfo];exact dg)) (hn _ _ _ _ _ M ν h (.refl hc.mem) ?_)
 simp only[VR]
 rw[hfo]
 exact V.bU dg
theorem ET(hE:EnvTy P E)(hc:Core c σ a.tmps w M ν){t:TypeId}{x i:Operand}(ho:o.op= .indexAddr t x i){K:fO α}{τ:Ty}(ht:E.ty t=some τ)
  (h:eD τ (σ.ρ x) (σ.ρ i) σ.H K=some r) (hn:eh c σ a o w M ν K r next):o.wp P a w next Q:=by
 unfold eD at h
 obtain⟨k,n,hi,h2⟩:=j2 h
 clear h
 have h:=h2
 clear h2
 have MV:=hc.ev i
 rw[hi]at MV
 have MV:=MV.int
 have hv:=hc.ev x
 have vp:=hE.ty t τ ht
 split at h
 ·
  rename_i e
  obtain⟨e',Ks,hle⟩:=vp.slice
  split at h
  ·rename_i υ l hx
   obtain⟨e1,h⟩:=bg h
   subst e1
   obtain⟨gD,h⟩:=bP h
   obtain⟨h0,h1⟩:=qy gD
   have h1:n<(List.length l:Int):=h1
   rw[hx]at hv
   simp only[VR]at hv
   have hv:=V.slice.1 hv
   simp only[Rd,azq,az4]at hv
   obtain⟨ad,cap,hu,ahH,hr⟩:=hv
   obtain⟨b,off,rfl,hb,hM,cs,lG,iu⟩:=hr n.toNat (by omega)
   refine aN (iy ho Ks hle hu MV h0 h1) (hn _ _ _ _ _ M ν h (.refl hc.mem) ?_)
   simp only[VR]
   refine⟨b,_,rfl,hb,hM,cs,lG,?_⟩
   have:Rd w M e cs (List.getD l n.toNat e.zero):=by rw[g7 l n.toNat e.zero (by omega)];exact iu
   exact this
  ·rename_i id hx
   rw[hx]at hv
   simp only[VR]at hv
   obtain⟨_,hu⟩:=hv
   split at h
   ·rename_i e2 l aV
    obtain⟨he_,h_⟩:=dY h
    clear h
    subst he_
    have h:=h_
    clear h_
    obtain⟨gD,h⟩:=bP h
    obtain⟨h0,h1⟩:=qy gD
    have jI:=hc.mem.jr id _ aV
    simp only[ER]at jI
    rcases jI with⟨rfl,_⟩|⟨b,cs,te,cap,hb,hg,hM,Qg,hl,Ac,hs,hr⟩
    ·simp at h1;omega
    ·rw[hb]at hu
     refine aN (iy ho Ks hle hu MV h0 h1) (hn _ _ _ _ _ M ν h (.refl hc.mem) ?_)
     simp only[VR]
     refine⟨_,aV,?_⟩
     simp only[AR]
     exact⟨n.toNat,[],rfl,by omega,trivial,b,_,_,hb,by simp[bQ]⟩
   ·rename_i e2 l aV
    obtain⟨he_,h_⟩:=dY h
    clear h
    subst he_
    have h:=h_
    clear h_
    obtain⟨gD,h⟩:=bP h
    obtain⟨h0,h1⟩:=qy gD
    have jI:=hc.mem.jr id _ aV
    simp only[ER]at jI
    obtain⟨iu,hhd⟩:=jI
    simp only[Rd,azq,az4]at iu
    obtain⟨ad,cap,hb,ahH,hr⟩:=iu
    rcases hhd with⟨rfl,_⟩|⟨b,n2,c2,tF⟩
    ·simp at h1;omega
    ·rw[hb]at tF;cases tF
     rw[hb]at hu
     refine aN (iy ho Ks hle hu MV h0 h1) (hn _ _ _ _ _ M ν h (.refl hc.mem) ?_)
     simp only[VR]
     refine⟨_,aV,?_⟩
     simp only[AR]
     exact⟨n.toNat,[],rfl,by omega,trivial,b,_,_,hb,by simp[bQ]⟩
   ·cases h
  ·cases h
 ·
  rename_i len e
  obtain⟨e',Ks,hle⟩:=vp.arr
  split at h
  ·rename_i id p hx
   obtain⟨en,υ,aV,het,h⟩:=Ao h
   obtain⟨he_,h_⟩:=dY h
   clear h
   subst he_
   have h:=h_
   clear h_
   obtain⟨gD,h⟩:=bP h
   obtain⟨h0,h1⟩:=qy gD
   rw[hx]at hv
   simp only[VR]at hv
   obtain⟨en',tV,kJ⟩:=hv
   rw[aV]at tV;cases tV
   obtain⟨b,off,hu,acp⟩:=kJ.step het (.idx n.toNat) ⟨⟨len,e,rfl,by omega⟩,trivial⟩
   refine aN (oZ ho Ks hle hu MV h0 h1) (hn _ _ _ _ _ M ν h (.refl hc.mem) ?_)
   simp only[VR]
   refine⟨en,aV,?_⟩
   simpa [bQ,elT]using acp
  ·rename_i υ l hx
   obtain⟨e1,h⟩:=bg h
   subst e1
   obtain⟨gD,h⟩:=bP h
   obtain⟨h0,h1⟩:=qy gD
   rw[hx]at hv
   simp only[VR]at hv
   obtain⟨b,off,hu,hb,hM,cs,lG,hr⟩:=hv
   refine aN (oZ ho Ks hle hu MV h0 h1) (hn _ _ _ _ _ M ν h (.refl hc.mem) ?_)
   simp only[VR]
   exact⟨b,_,rfl,hb,hM,_,lG.sub _ e.size,hr.idx (by omega)⟩
  ·cases h
 ·cases h
theorem y3(hc:Core c σ a.tmps w M ν){x:Operand}(ho:o.op= .nilCheck x){K:fO α}{id:Nat}{p:List Step}(hx:σ.ρ x= .fW id p)
  (h:K (.fW id p) [] []=some r) (hn:eh c σ a o w M ν K r next):o.wp P a w next Q:=by
 have hv:=hc.ev x
 have QE:=hv
 rw[hx]at hv
 simp only[VR]at hv
 obtain⟨e,he,kJ⟩:=hv
 obtain⟨ad,hu⟩:=kJ.ptr
 refine aN (rz ho hu) (hn _ _ _ _ _ M ν h (.refl hc.mem) ?_)
 rw[←hu,←hx];exact QE
theorem w3(hc:Core c σ a.tmps w M ν){x:Operand}(ho:o.op= .nilCheck x){K:fO α}{τ:Ty}{z:τ.den}(hx:σ.ρ x= .nK τ z)
  (h:K (.nK τ z) [] []=some r) (hn:eh c σ a o w M ν K r next):o.wp P a w next Q:=by
 have hv:=hc.ev x
 have QE:=hv
 rw[hx]at hv
 simp only[VR]at hv
 obtain⟨b,off,hu,_⟩:=hv
 refine aN (rz ho hu) (hn _ _ _ _ _ M ν h (.refl hc.mem) ?_)
 rw[←hu,←hx];exact QE
theorem fX.get{H:Nat→Option aS}: ∀{m6:List bb} {vs:List Value},fX w M H ν m6 vs→ ∀{i:Nat} {x:bb},m6[i]? =some x→ ∃v,vs[i]? =some v∧VR w M H ν x v
 |[],_,_,i,x,hx=>by simp at hx
 |y::m6,[],h,_,_,_=>by simp[fX]at h
 |y::m6,v::vs,h,0,x,hx=>by
  simp only[fX]at h
  simp at hx;subst hx
  exact⟨v,rfl,h.1⟩
 |y::m6,v::vs,h,i+1,x,hx=>by
  simp only[fX]at h
  exact fX.get h.2 (by simpa using hx)
theorem KU(hc:Core c σ a.tmps w M ν){x:Operand}{i:Nat}(ho:o.op= .extract x i){K:fO α}{vs:List bb}{v:bb}(hx:σ.ρ x= .tup vs)(hi:vs[i]? =some v)
  (h:K v [] []=some r) (hn:eh c σ a o w M ν K r next):o.wp P a w next Q:=by
 have hv:=hc.ev x
 rw[hx]at hv
 simp only[VR]at hv
 obtain⟨us,hu,UA⟩:=hv
 obtain⟨u,hui,hvu⟩:=UA.get hi
 exact aN (Af ho hu hui) (hn _ _ _ _ _ M ν h (.refl hc.mem) hvu)
theorem Core.evs(hc:Core c σ a.tmps w M ν): ∀xs:List Operand,fX w M σ.H ν (xs.map σ.ρ) (xs.map a.eval)
 |[]=>by simp[fX]
 |x::xs=>by simp only[ay6,fX];exact⟨hc.ev x,hc.evs xs⟩
theorem sf: ∀{m6:List bb} {vs:List Value} {H:Nat→Option aS} {M:Nat→Prop} {K:List bb→List Nat→fN→Option α},Mem c H w M ν→fX w M H ν m6 vs→rW H m6 K=some r→
  ∃cs rd ups M',K cs rd ups=some r∧Tr c H w M ν (ch H ups) w M' ν∧fX w M' (ch H ups) ν cs vs
 |[],vs,H,M,K,hm,hv,h=>⟨[],[],[],M,h,.refl hm,hv⟩
 |x::xs,[],H,M,K,hm,hv,h=>by simp[fX]at hv
 |x::xs,v::vs,H,M,K,hm,hv,h=>by
  simp only[fX]at hv
  unfold rW at h
  split at h
  ·rename_i id
   split at h
   ·rename_i τ z aV
    obtain⟨M1,b,ht,hb,dH,hM,oX,lG,iu⟩:=Tr.fix hm aV
    obtain⟨cs,rd,ups,M2,hK,T3,UB⟩:=sf ht.mem (fX.bD ht.bD ht.goes hv.2) h
    refine⟨_,_,_,M2,hK,ht.trans T3,?_⟩
    have h1:VR w M1 (bz H id (some .gone)) ν (.nK τ z) v:=by
     have GX:=hv.1
     simp only[VR]at GX ⊢
     obtain⟨e,he,kJ⟩:=GX
     rw[aV]at he;cases he
     simp only[AR]at kJ
     obtain⟨_,b',dN,GX⟩:=kJ
     rw[hb]at dN;cases dN
     exact⟨b,0,GX,dH,hM,oX,lG,iu⟩
    simp only[fX]
    exact⟨VR.bD T3.bD T3.goes h1,UB⟩
   ·cases h
  ·obtain⟨cs,rd,ups,M2,hK,T3,UB⟩:=sf hm hv.2 h
   refine⟨_,_,_,M2,hK,T3,?_⟩
   simp only[fX]
   exact⟨VR.bD T3.bD T3.goes hv.1,UB⟩
theorem GY(hc:Core c σ a.tmps w M ν){f:FuncId}{first caps:Array Operand}(ho:o.op= .makeFunc (.func f) first caps){K:fO α}
  (h:cond first.isEmpty (rW σ.H (caps.toList.map σ.ρ) fun cs rd ups=>K (.GB f cs) rd ups) none=some r) (hn:eh c σ a o w M ν K r next):o.wp P a w next Q:=by
 obtain⟨hf,h⟩:=bP h
 obtain⟨cs,rd,ups,M',hK,ht,hv⟩:=sf hc.mem (hc.evs _) h
 refine aN (yW ho (by simpa using hf)) (hn _ _ _ _ _ M' ν hK ht ?_)
 simp only[VR]
 exact⟨caps.toList.map a.eval,by congr 1;apply aAy;simp,hv⟩
theorem KV(hE:EnvTy P E)(hc:Core c σ a.tmps w M ν){s d:TypeId}{x:Operand}(ho:o.op= .convert s d x){K:fO α}{τ:Ty}{k:IntKind}(hs:E.ty s=some τ)(hd:E.ty d=some (.int k))
  (h:rT (σ.ρ x) (fun _ n=>K (.val (.int k) (W k n)) [] [])=some r) (hn:eh c σ a o w M ν K r next):o.wp P a w next Q:=by
 obtain⟨k',n,hx,h⟩:=j2 h
 have hv:=hc.ev x
 rw[hx]at hv
 refine aN (Ah ho (hE.ty s τ hs).isSome (hE.ty d _ hd).int hv.int) (hn _ _ _ _ _ M ν h (.refl hc.mem) ?_)
 rw[yQ];exact .mkInt k _
end VM
end
section
namespace VM
open Go
variable{P:Program}{E:Env}{o:Oper}{a:Act}{w:World}{M:Nat→Prop}{ν:Nat→Value}{σ:St}{c:Ctx}{α:Type}{r:α}{next:Act→World→Prop}{Q:Exit→Act→World→Prop}
theorem Od{b:BinOp}{k k':IntKind}{x y:Int}{t:TypeId}{K:bb→Option α}(h:Up b k x y K=some r):
  ∃z,K (.val (.int k) z)=some r∧(binOp b t (.int k x) (.int k' y)).run P w= .ok (.int k z) w:=by
 unfold Up at h
 split at h
 ·obtain⟨h0,h⟩:=js h
  rw[pz]at h0
  have h0: ¬y<0:=by simpa using h0
  refine⟨_,h,?_⟩
  rw[yQ,Qt]
  simp[binOp,Op.shift,h0]
 ·obtain⟨h0,h⟩:=js h
  rw[pz]at h0
  have h0: ¬y<0:=by simpa using h0
  refine⟨_,h,?_⟩
  rw[KN]
  simp[binOp,Op.shift,h0]
 ·cases h
theorem EU{b:BinOp}{k:IntKind}{x y:Int}{t:TypeId}{K:bb→Option α}(h:qu b k x y K=some r):
  ∃v u,K v=some r∧(binOp b t (.int k x) (.int k y)).run P w= .ok u w∧ ∀H,VR w M H ν v u:=by
 unfold qu at h
 split at h
 ·exact⟨_,_,h,by simp[binOp,Op.intArith,yQ],fun H=> .mkInt _ _⟩
 ·exact⟨_,_,h,by simp[binOp,Op.intArith,yQ],fun H=> .mkInt _ _⟩
 ·exact⟨_,_,h,by simp[binOp,Op.intArith,yQ],fun H=> .mkInt _ _⟩
 ·obtain⟨h0,h⟩:=js h
  rw[gh]at h0
  have h0: ¬y=0:=by simpa using h0
  exact⟨_,_,h,by simp[binOp,Op.intDiv,yQ,ED,h0],fun H=> .mkInt _ _⟩
 ·obtain⟨h0,h⟩:=js h
  rw[gh]at h0
  have h0: ¬y=0:=by simpa using h0
  exact⟨_,_,h,by simp[binOp,Op.intDiv,Qs,h0],fun H=> .mkInt _ _⟩
 ·exact⟨_,_,h,by simp[binOp,Op.intBits,qt],fun H=> .mkInt _ _⟩
 ·exact⟨_,_,h,by simp[binOp,Op.intBits,qt],fun H=> .mkInt _ _⟩
 ·exact⟨_,_,h,by simp[binOp,Op.intBits,qt],fun H=> .mkInt _ _⟩
 ·exact⟨_,_,h,by simp[binOp,Op.intBits,qt],fun H=> .mkInt _ _⟩
 ·exact⟨_,.bool (decide (x=y)),h,by simp[binOp,Op.intCmp];rfl,fun H=>by rw[gh];exact .qx _⟩
 ·exact⟨_,.bool (!decide (x=y)),h,by simp[binOp,Op.intCmp];rfl,fun H=>by rw[gh];exact .qx _⟩
 ·exact⟨_,_,h,by simp[binOp,Op.intCmp,pz],fun H=> .qx _⟩
 ·exact⟨_,_,h,by simp[binOp,Op.intCmp,jW],fun H=> .qx _⟩
 ·exact⟨_,_,h,by simp[binOp,Op.intCmp,pz],fun H=> .qx _⟩
 ·exact⟨_,_,h,by simp[binOp,Op.intCmp,jW],fun H=> .qx _⟩
 ·cases h
theorem Oe{t:Option Ty}{op:BinOp}{τ:Ty}{x:τ.den}{υ:Ty}{y:υ.den}{K:bb→Option α}(h:Aa t op τ x υ y K=some r):
  (∃(k k':IntKind) (m n:Int),bb.val τ x= .val (.int k) m∧bb.val υ y= .val (.int k') n∧(cond (Uq op) (Up op k m n K) (if k=k' then qu op k m n K else none))=some r)∨
  (∃z:τ.den,bb.val υ y= .val τ z∧t=some τ∧τ.comparable=true∧((op= .eql∧K (.val .bool (jT τ x z))=some r)∨(op= .neq∧K (.val .bool (!jT τ x z))=some r))):=by
 unfold Aa at h
 split at h
 ·exact .inl ⟨_,_,_,_,rfl,rfl,h⟩
 ·right
  split at h
  ·cases h
  ·obtain⟨e,h1⟩:=dY h
   clear h
   subst e
   obtain⟨hc,h⟩:=bP h1
   clear h1
   split at h
   ·obtain⟨e,h1⟩:=bg h
    subst e
    exact⟨_,rfl,rfl,hc,.inl ⟨rfl,h1⟩⟩
   ·obtain⟨e,h1⟩:=bg h
    subst e
    exact⟨_,rfl,rfl,hc,.inr ⟨rfl,h1⟩⟩
   ·cases h
theorem xR{t:TypeId}(hu:P.underlying t=some .bool)(x y:Bool)(w:World):(Op.equal t (.bool x) (.bool y)).run P w= .ok (x==y) w:=by
 unfold Op.equal
 obtain⟨n,hn⟩: ∃n,Op.maxDepth=n+1:=⟨9999,rfl⟩
 rw[hn]
 simp[Op.equalIn,run_underlying hu]
theorem run_eql_bool{t:TypeId}(hu:P.underlying t=some .bool)(x y:Bool):(binOp .eql t (.bool x) (.bool y)).run P w= .ok (.bool (x==y)) w:=by
 simp[binOp,xR hu]
theorem run_neq_bool{t:TypeId}(hu:P.underlying t=some .bool)(x y:Bool):(binOp .neq t (.bool x) (.bool y)).run P w= .ok (.bool (!(x==y))) w:=by
 simp[binOp,xR hu]
theorem ahJ(x y:ByteArray):(x.toList==y.toList)=decide (x.toList=y.toList):=by
 rw[aAi];simp
theorem GZ{t:TypeId}(x y:ByteArray):(binOp .eql t (.string x) (.string y)).run P w= .ok (.bool (decide (x.toList=y.toList))) w:=by
 simp[binOp,Op.stringOp,ahJ]
theorem G0{t:TypeId}(x y:ByteArray):(binOp .neq t (.string x) (.string y)).run P w= .ok (.bool (!decide (x.toList=y.toList))) w:=by
 simp[binOp,Op.stringOp,ahJ]
theorem QF(hE:EnvTy P E)(hc:Core c σ a.tmps w M ν){b:BinOp}{t t':TypeId}{x y:Operand}(ho:o.op= .binOp b t x y t'){K:fO α}
  (h:GD (σ.ρ x) (fun τ x=>GD (σ.ρ y) fun υ y=>Aa (E.ty t) b τ x υ y fun v=>K v [] [])=some r) (hn:eh c σ a o w M ν K r next):o.wp P a w next Q:=by
 have hx:=hc.ev x
 have hy:=hc.ev y
 unfold GD at h
 split at h
 ·rename_i τ x' hxe
  split at h
  ·rename_i υ y' hye
   rw[hxe]at hx;rw[hye]at hy
   rcases Oe h with⟨k,k',m,n,e1,e2,h1⟩|⟨z,e2,ht,Of,h1⟩
   ·rw[e1]at hx;rw[e2]at hy
    have hx:=hx.int
    have hy:=hy.int
    cases hs:Uq b
    ·rw[hs]at h1
     replace h1:(if k=k' then qu b k m n (fun v=>K v [] [])else none)=some r:=h1
     split at h1
     ·rename_i hk;subst hk
      obtain⟨v,u,hK,cT,hVR⟩:=EU (P:=P) (w:=w) (M:=M) (ν:=ν) (t:=t) h1
      exact aN (m7 ho (by rw[hx,hy];exact mH w) (by rw[hx,hy];exact cT)) (hn _ [] [] _ _ _ _ hK (.refl hc.mem) (hVR _))
     ·cases h1
    ·rw[hs]at h1
     replace h1:Up b k m n (fun v=>K v [] [])=some r:=h1
     obtain⟨z,hK,cT⟩:=Od (P:=P) (w:=w) (k':=k') (t:=t) h1
     exact aN (m7 ho (by rw[hx,hy];exact mH w) (by rw[hx,hy];exact cT)) (hn _ [] [] _ _ _ _ hK (.refl hc.mem) (.mkInt _ _))
   ·rw[e2]at hy
    have key:(eqGuard b t x y (a.eval x) (a.eval y)).run P w= .ok () w∧(binOp .eql t (a.eval x) (a.eval y)).run P w= .ok (.bool (jT τ x' z)) w∧(binOp .neq t (a.eval x) (a.eval y)).run P w= .ok (.bool (!jT τ x' z)) w:=by
     by_cases GP:τ.isAgg=true
     ·simp only[VR]at hx hy
      exact hE.eq t τ ht Of GP w M _ _ _ _ b x y hx hy
     ·have hl:=hE.ty t τ ht
      cases τ with
      |int k=>
       rw[hx.int,hy.int]
       refine⟨mH w,?_,?_⟩
       ·simp[binOp,Op.intCmp,jT,gh];rfl
       ·simp[binOp,Op.intCmp,jT,gh];rfl
      |bool=>rw[hx.bool,hy.bool];exact⟨wY w,run_eql_bool hl.bool _ _,run_neq_bool hl.bool _ _⟩
      |str=>rw[hx.str,hy.str];exact⟨yX w,by rw[GZ];simp[jT,z8],by rw[G0];simp[jT,z8]⟩
      |slice e=>simp[Ty.comparable]at Of
      |unit=>simp[Ty.isAgg]at GP
      |pair _ _=>simp[Ty.isAgg]at GP
      |arr _ _=>simp[Ty.isAgg]at GP
    obtain⟨hg,h2,h3⟩:=key
    rcases h1 with⟨rfl,hK⟩|⟨rfl,hK⟩
    ·exact aN (m7 ho hg h2) (hn _ [] [] _ _ _ _ hK (.refl hc.mem) (.qx _))
    ·exact aN (m7 ho hg h3) (hn _ [] [] _ _ _ _ hK (.refl hc.mem) (.qx _))
  ·cases h
 ·cases h
theorem UC(hc:Core c σ a.tmps w M ν){u:UnOp}{t:TypeId}{x:Operand}(ho:o.op= .unOp u t x){K:fO α}
  (h:N2 u (σ.ρ x) (fun v=>K v [] [])=some r) (hn:eh c σ a o w M ν K r next):o.wp P a w next Q:=by
 have hx:=hc.ev x
 unfold N2 at h
 split at h
 ·rename_i k n hxe
  rw[hxe]at hx
  refine aN (sb ho (v:= .int k (k.wrap (0-n))) ?_) (hn _ [] [] _ _ _ _ h (.refl hc.mem) (by rw[yQ];exact .mkInt _ _))
  rw[hx.int];simp[Op.unary,Op.intArith]
 ·rename_i k n hxe
  rw[hxe]at hx
  refine aN (sb ho (v:= .int k (jH .xor k (if k.signed then-1 else k.max) n)) ?_) (hn _ [] [] _ _ _ _ h (.refl hc.mem) (.mkInt _ _))
  rw[hx.int,qt];simp[Op.unary,Op.intBits]
 ·rename_i b hxe
  rw[hxe]at hx
  refine aN (sb ho (v:= .bool (!b)) ?_) (hn _ [] [] _ _ _ _ h (.refl hc.mem) (.qx _))
  rw[hx.bool];simp[Op.unary]
 ·cases h
end VM
end
section
namespace VM
open Go
variable{P:Program}{E:Env}{o:Oper}{a:Act}{w:World}{M:Nat→Prop}{ν:Nat→Value}{σ:St}{c:Ctx}{α:Type}{r:α}{next:Act→World→Prop}{Q:Exit→Act→World→Prop}
theorem kX{args:Array Operand}{ts:Array TypeId}{t:TypeId}{x:Operand}{n:Nat}(ho:o.op= .call {callee:= .builtin .len,args,argTypes:=ts})(ha:args.toList=[x])(_ht:ts.toList.head?=some t)
  (hl: ∀ty,(Builtin.len_ ts ty #[a.eval x]).run P w= .ok (goInt n) w):(execOp a.eval o).run P w= .ok (.value (.int .i64 n)) w:=by
 obtain⟨cs,hr⟩:=nP (P:=P) (ρ:=a.eval) ho (w:=w)
 rw[hr]
 have:args.map a.eval= #[a.eval x]:=by apply aAy;simp[ha]
 rw[this]
 simp[builtin,hl,goInt]
theorem UD{ts:Array TypeId}{t ty:TypeId}(ht:ts[0]? =some t)(hu:P.underlying t=some .string)(s:ByteArray):(Builtin.len_ ts ty #[.string s]).run P w= .ok (goInt s.size) w:=by
 simp[Builtin.len_,ht,run_underlying hu]
theorem UE{ts:Array TypeId}{t ty e:TypeId}{n:Nat}(ht:ts[0]? =some t)(hu:P.underlying t=some (.array n e))(v:Value):(Builtin.len_ ts ty #[v]).run P w= .ok (goInt n) w:=by
 simp[Builtin.len_,ht,run_underlying hu]
theorem s4{ts:Array TypeId}{t ty e:TypeId}(ht:ts[0]? =some t)(hu:P.underlying t=some (.slice e))(ad:Option Addr)(n cp:Nat):(Builtin.len_ ts ty #[.slice ad n cp]).run P w= .ok (goInt n) w:=by
 simp[Builtin.len_,ht,run_underlying hu]
theorem ER.QG{e:Ty}{l:List e.den}{v:Value}(h:ER w M v (.own e l)): ∃ad cp,v= .slice ad l.length cp:=by
 simp only[ER]at h
 rcases h with⟨rfl,a,hv⟩|⟨b,cs,t,cap,hv,_⟩
 ·exact⟨a,0,hv⟩
 ·exact⟨_,cap,hv⟩
theorem ER.QH{e:Ty}{l:List e.den}{v:Value}(h:ER w M v (.lF e l)): ∃ad cp,v= .slice ad l.length cp:=by
 simp only[ER]at h
 have h:=h.1
 simp only[Rd,azq,az4]at h
 obtain⟨a,cap,hv,_⟩:=h
 exact⟨a,cap,hv⟩
theorem acr(hE:EnvTy P E)(hc:Core c σ a.tmps w M ν){args:Array Operand}{ts:Array TypeId}{x:Operand}(ho:o.op= .call {callee:= .builtin .len,args,argTypes:=ts})(ha:args.toList=[x]){K:fO α}{τ:Ty}
  (ht:(ts.toList.head?).bind E.ty=some τ) (h:GF τ (σ.ρ x) σ.H K=some r) (hn:eh c σ a o w M ν K r next):o.wp P a w next Q:=by
 obtain⟨t,rN,T3⟩:=az7.1 ht
 have UF:ts[0]? =some t:=by rw[←rN,←azh,List.head?_eq_getElem?]
 have hl:=hE.ty t τ T3
 have hv:=hc.ev x
 unfold GF at h
 split at h
 ·rename_i e e' l hx
  obtain⟨_,hu,_⟩:=hl.slice
  rw[hx]at hv
  simp only[VR]at hv
  have hv:=V.slice.1 hv
  simp only[Rd,azq,az4]at hv
  obtain⟨ad,cap,hv,_⟩:=hv
  refine aN (kX ho ha rN (n:=List.length l) fun ty=>by rw[hv];exact s4 UF hu _ _ _) (hn _ [] [] _ _ _ _ h (.refl hc.mem) (.mkInt _ _))
 ·rename_i n e n' e' l hx
  obtain⟨_,hu,_⟩:=hl.arr
  refine aN (kX ho ha rN (n:=n) fun ty=>UE UF hu _) (hn _ [] [] _ _ _ _ h (.refl hc.mem) (.mkInt _ _))
 ·rename_i s hx
  rw[hx]at hv
  refine aN (kX ho ha rN (n:=ByteArray.size s) fun ty=>by rw[hv.str];exact UD UF hl.str _) (hn _ [] [] _ _ _ _ h (.refl hc.mem) (.mkInt _ _))
 ·rename_i e hx
  obtain⟨_,hu,_⟩:=hl.slice
  rw[hx]at hv
  simp only[VR]at hv
  obtain⟨ad,hv⟩:=hv
  refine aN (kX ho ha rN (n:=0) fun ty=>by rw[hv];exact s4 UF hu _ _ _) (hn _ [] [] _ _ _ _ h (.refl hc.mem) (.mkInt _ _))
 ·rename_i e id hx
  obtain⟨_,hu,_⟩:=hl.slice
  rw[hx]at hv
  simp only[VR]at hv
  split at h
  ·rename_i e' l aV
   obtain⟨ad,cap,hh⟩:=(hc.mem.jr id _ aV).QG
   refine aN (kX ho ha rN (n:=l.length) fun ty=>by rw[hv.2,hh];exact s4 UF hu _ _ _) (hn _ [id] [] _ _ _ _ h (.refl hc.mem) (.mkInt _ _))
  ·rename_i e' l aV
   obtain⟨ad,cap,hh⟩:=(hc.mem.jr id _ aV).QH
   refine aN (kX ho ha rN (n:=l.length) fun ty=>by rw[hv.2,hh];exact s4 UF hu _ _ _) (hn _ [id] [] _ _ _ _ h (.refl hc.mem) (.mkInt _ _))
  ·cases h
 ·cases h
theorem G1{H:Nat→Option aS}(up:Bool): ∀(xs:List bb) (x:bb) (v:Value) (vs:List Value) (K:bb→Option α),VR w M H ν x v→fX w M H ν xs vs→T0 up x xs K=some r→
  ∃x' v',K x'=some r∧(vs.foldlM (if up then Builtin.max2 else Builtin.min2) v).run P w= .ok v' w∧VR w M H ν x' v'
 |[],x,v,[],K,hx,_,h=>⟨x,v,h,by simp,hx⟩
 |[],_,_,_::_,_,_,hs,_=>by simp[fX]at hs
 |_::_,_,_,[],_,_,hs,_=>by simp[fX]at hs
 |y::xs,x,v,u::vs,K,hx,hs,h=>by
  simp only[fX]at hs
  obtain⟨hy,hs⟩:=hs
  unfold T0 at h
  obtain⟨k,m,e1,h1⟩:=j2 h
  obtain⟨k',n,e2,h2⟩:=j2 h1
  clear h h1
  split at h2
  ·rename_i hk
   subst hk
   rw[e1]at hx;rw[e2]at hy
   have hx:=hx.int
   have hy:=hy.int
   obtain⟨x',v',hK,cT,hV⟩:=G1 up xs _ (.int k (cond up (mx m n) (mn m n))) vs K (.mkInt _ _) hs h2
   refine⟨x',v',hK,?_,hV⟩
   rw[List.foldlM_cons,Sem.run_bind]
   have:((if up then Builtin.max2 else Builtin.min2) v u).run P w= .ok (.int k (cond up (mx m n) (mn m n))) w:=by
    rw[hx,hy]
    cases up
    ·simp[Builtin.min2,aa0]
    ·simp[Builtin.max2,ahs]
   rw[this]
   exact cT
  ·cases h2
theorem aa5(hc:Core c σ a.tmps w M ν)(up:Bool){args:Array Operand}{ts:Array TypeId}{x:Operand}{xs:List Operand}(ho:o.op= .call {callee:= .builtin (if up then .max else .min),args,argTypes:=ts})(ha:args.toList=x::xs){K:fO α}
  (h:T0 up (σ.ρ x) (xs.map σ.ρ) (fun v=>K v [] [])=some r) (hn:eh c σ a o w M ν K r next):o.wp P a w next Q:=by
 obtain⟨x',v',hK,cT,hV⟩:=G1 (P:=P) up (xs.map σ.ρ) (σ.ρ x) (a.eval x) (xs.map a.eval) _ (hc.ev x) (hc.evs xs) h
 refine aN ?_ (hn _ [] [] _ _ _ _ hK (.refl hc.mem) hV)
 obtain⟨cs,hr⟩:=nP (P:=P) (ρ:=a.eval) ho (w:=w)
 rw[hr]
 have hm:(args.map a.eval).toList=a.eval x::xs.map a.eval:=by simp[ha]
 cases up
 ·simp only[azv,aAt,builtin,Builtin.min_,hm,Sem.run_bind]at cT ⊢
  rw[cT];simp
 ·simp only[aBc,builtin,Builtin.max_,hm,Sem.run_bind]at cT ⊢
  rw[cT];simp
theorem CE{ρ:Operand→Value}{t:TypeId}{x i:Operand}(ho:o.op= .index t x i){k:IntKind}{n:Int}{s:ByteArray}
  (hu:P.underlying t=some .string) (hx:ρ x= .string s) (hi:ρ i= .int k n) (h0:0≤n) (h1:n<(s.size:Int)):
  (execOp ρ o).run P w= .ok (.value (.int .u8 ((s.data.getD n.toNat 0).toNat:Int))) w:=by
 have dH:n.toNat<s.size:=by omega
 have hs:s[n.toNat]? =some (s[n.toNat]'dH):=by simp[dH]
 have he:s[n.toNat]'dH=s.data.getD n.toNat 0:=by
  have sg:n.toNat<s.data.size:=dH
  rw[Array.getD,dif_pos sg];rfl
 simp[execOp,ho,hx,hi,Instr.index,asIntOf,run_underlying hu,h0,hs,he]
theorem QI(hE:EnvTy P E)(hc:Core c σ a.tmps w M ν){t:TypeId}{x i:Operand}(ho:o.op= .index t x i){K:fO α}{τ:Ty}(ht:E.ty t=some τ)
  (h:rX τ (σ.ρ x) (σ.ρ i) (fun v=>K v [] [])=some r) (hn:eh c σ a o w M ν K r next):o.wp P a w next Q:=by
 unfold rX at h
 obtain⟨k,n,hi,h2⟩:=j2 h
 clear h
 have h:=h2
 clear h2
 have MV:=hc.ev i
 rw[hi]at MV
 have MV:=MV.int
 have hv:=hc.ev x
 have vp:=hE.ty t τ ht
 split at h
 ·rename_i len e υ l hx
  obtain⟨e',Ks,hle⟩:=vp.arr
  obtain⟨e1,h⟩:=bg h
  subst e1
  obtain⟨gD,h⟩:=bP h
  obtain⟨h0,h1⟩:=qy gD
  rw[hx]at hv
  simp only[VR]at hv
  obtain⟨cs,hu,hr⟩:=hv.agg rfl
  have dg:=hr.idx (i:=n.toNat) (by omega)
  refine aN (CA ho Ks hle hu MV h0 h1 dg) (hn _ [] [] _ _ _ _ h (.refl hc.mem) ?_)
  simp only[VR]
  exact V.bU dg
 ·rename_i s hx
  obtain⟨gD,h⟩:=bP h
  obtain⟨h0,h1⟩:=qy gD
  rw[hx]at hv
  refine aN (CE ho vp.str hv.str MV h0 h1) (hn _ [] [] _ _ _ _ h (.refl hc.mem) (.mkInt _ _))
 ·cases h
theorem lI(τ:Ty):τ.cy.length=τ.size:=(Rd.zero default (fun _=>False) τ).length
theorem y4{z:Array Value}{n i s:Nat}(hz:z.size=s)(hi:i*s+s≤n):((madeCells z n).toList.drop (i*s)).take s=z.toList:=by
 apply aBk
 intro j
 rw[azJ]
 split
 ·rename_i hj
  rw[azK,azh,azh]
  simp only[madeCells,Array.getElem?_map]
  rw[Array.getElem?_range,ayF (by omega)]
  simp only[Option.map_some]
  have:(i*s+j)%z.size=j:=by rw[hz,aBV,Nat.mul_add_mod,Nat.mod_eq_of_lt hj]
  rw[this,aBI (by omega),getElem!_pos z j (by omega)]
 ·rename_i hj
  rw[azh,aBS (by omega)]
theorem nQ.made(w:World)(M:Nat→Prop)(e:Ty){n l:Nat}(h:l*e.size≤n):nQ w M e (madeCells (bU e e.cy).cells n).toList (List.replicate l e.zero):=by
 intro i hi
 rw[ayS]at hi
 have:=c8 (s:=e.size) hi
 rw[y4 (by rw[←ayM,eW,lI]) (by omega),eW,aBT]
 exact Rd.zero w M e
theorem w4{ρ:Operand→Value}{t:TypeId}{x y:Operand}(ho:o.op= .makeSlice t x y){v:Value}{w':World}(h:(Instr.makeSlice t (ρ x) (ρ y)).run P w= .ok v w'):(execOp ρ o).run P w= .ok (.value v) w':=by
 simp[execOp,ho,h]
theorem EV(hE:EnvTy P E)(hc:Core c σ a.tmps w M ν){t:TypeId}{x y:Operand}(ho:o.op= .makeSlice t x y){K:fO α}{e:Ty}(ht:E.ty t=some (.slice e)){id:Nat}
  (h:rT (σ.ρ x) (fun _ l=>rT (σ.ρ y) fun _ c=>cond (gg l c)
   (nL σ.H id (.own e []) (K (.ref id) [id] [(id,some (.own e (List.replicate l.toNat e.zero)))])) none)=some r) (hn:eh c σ a o w M ν K r next):o.wp P a w next Q:=by
 obtain⟨k,l,hx,h1⟩:=j2 h
 obtain⟨k',n,hy,h2⟩:=j2 h1
 clear h h1
 obtain⟨hk,h⟩:=bP h2
 obtain⟨aV,h⟩:=iF h
 rw[Dd]at hk
 obtain⟨h0,h1,h3⟩:=ayV hk
 simp only[u7]at h3
 obtain⟨e',hu,hle⟩:=(hE.ty t _ ht).slice
 obtain⟨i,hi,hs,hz,hb⟩:=hle.base
 have EW:=hc.ev x
 have yZ:=hc.ev y
 rw[hx]at EW;rw[hy]at yZ
 have acs:(i.bytes:Int)*n≤281474976710656:=by
  have h4:(i.bytes:Int)≤2048:=by omega
  have:(i.bytes:Int)*n≤2048*n:=azs h4 (by omega)
  omega
 have cT:=run_make (P:=P) w t e' i _ hu hi hz k k' l n h0 h1 acs (by omega)
 have hlen:(List.replicate l.toNat e.zero).length=l.toNat:=ayS
 have fg:=Tr.row hc.mem aV e' (e:=e) (cs:=madeCells (bU e e.cy).cells (n.toNat*i.size)) (l:=List.replicate l.toNat e.zero) (cap:=n.toNat) (by rw[hlen];omega) (by simp[maxLen];omega)
  (by rw[size_madeCells,hs]) (nQ.made w M e (aBB (by omega) (by omega)))
 refine aN (w4 ho (by rw[EW.int,yZ.int];exact cT)) (hn _ _ _ _ _ _ _ h fg ?_)
 simp only[VR]
 exact⟨by show bz σ.H id _ id≠none;rw[al];simp,by simp[cF]⟩
end VM
end
