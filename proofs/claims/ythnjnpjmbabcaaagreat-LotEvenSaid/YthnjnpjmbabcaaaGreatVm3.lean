/- A part of the proof of LotEven of layer 23: a machine that reads a function of the program as an equation between values. -/
import Derived.Test.YthnjnpjmbabcaaaGreatVm2
import Derived.Great.FillDense
set_option linter.all false
open List renaming length→ℓ
section
namespace VM
open Go
variable{P:Program}{E:Env}{o:Oper}{a:Act}{w:World}{M:Nat→Prop}{ν:Nat→Value}{σ:St}{c:Ctx}{α:Type}{r:α}{next:Act→World→Prop}{Q:Exit→Act→World→Prop}
theorem Tw{b:BinOp}{k k':IntKind}{x y:Int}{t:TypeId}{K:bk→Option α}(h:Zr b k x y K=some r):
  ∃z,K (.val (.int k) z)=some r∧(binOp b t (.int k x) (.int k' y)).run P w= .ok (.int k z) w:=by
 unfold Zr at h
 split at h
 ·obtain⟨h0,h⟩:=mM h
  rw[rm]at h0
  have h0: ¬y<0:=by simpa using h0
  refine⟨_,h,?_⟩
  rw[DW,VE]
  simp[binOp,Op.shift,h0]
 ·obtain⟨h0,h⟩:=mM h
  rw[rm]at h0
  have h0: ¬y<0:=by simpa using h0
  refine⟨_,h,?_⟩
  rw[Qg]
  simp[binOp,Op.shift,h0]
 ·cases h
theorem Kt{b:BinOp}{k:IntKind}{x y:Int}{t:TypeId}{K:bk→Option α}(h:uW b k x y K=some r):
  ∃v u,K v=some r∧(binOp b t (.int k x) (.int k y)).run P w= .ok u w∧ ∀H,VR w M H ν v u:=by
 unfold uW at h
 split at h
 ·exact⟨_,_,h,by simp[binOp,Op.intArith,DW],λH=> .mkInt _ _⟩
 ·exact⟨_,_,h,by simp[binOp,Op.intArith,DW],λH=> .mkInt _ _⟩
 ·exact⟨_,_,h,by simp[binOp,Op.intArith,DW],λH=> .mkInt _ _⟩
 ·obtain⟨h0,h⟩:=mM h
  rw[jj]at h0
  have h0: ¬y=0:=by simpa using h0
  exact⟨_,_,h,by simp[binOp,Op.intDiv,DW,Kg,h0],λH=> .mkInt _ _⟩
 ·obtain⟨h0,h⟩:=mM h
  rw[jj]at h0
  have h0: ¬y=0:=by simpa using h0
  exact⟨_,_,h,by simp[binOp,Op.intDiv,VC,h0],λH=> .mkInt _ _⟩
 ·exact⟨_,_,h,by simp[binOp,Op.intBits,uU],λH=> .mkInt _ _⟩
 ·exact⟨_,_,h,by simp[binOp,Op.intBits,uU],λH=> .mkInt _ _⟩
 ·exact⟨_,_,h,by simp[binOp,Op.intBits,uU],λH=> .mkInt _ _⟩
 ·exact⟨_,_,h,by simp[binOp,Op.intBits,uU],λH=> .mkInt _ _⟩
 ·exact⟨_,.bool (decide (x=y)),h,by simp[binOp,Op.intCmp];rfl,λH=>by rw[jj];exact .u6 _⟩
 ·exact⟨_,.bool (!decide (x=y)),h,by simp[binOp,Op.intCmp];rfl,λH=>by rw[jj];exact .u6 _⟩
 ·exact⟨_,_,h,by simp[binOp,Op.intCmp,rm],λH=> .u6 _⟩
 ·exact⟨_,_,h,by simp[binOp,Op.intCmp,oe],λH=> .u6 _⟩
 ·exact⟨_,_,h,by simp[binOp,Op.intCmp,rm],λH=> .u6 _⟩
 ·exact⟨_,_,h,by simp[binOp,Op.intCmp,oe],λH=> .u6 _⟩
 ·cases h
theorem Tx{t:Option Ty}{op:BinOp}{τ:Ty}{x:τ.den}{υ:Ty}{y:υ.den}{K:bk→Option α}(h:FG t op τ x υ y K=some r):
  (∃(k k':IntKind) (m n:Int),bk.val τ x= .val (.int k) m∧bk.val υ y= .val (.int k') n∧(cond (Zs op) (Zr op k m n K) (if k=k' then uW op k m n K else none))=some r)∨
  (∃z:τ.den,bk.val υ y= .val τ z∧t=some τ∧τ.comparable=true∧((op= .eql∧K (.val .bool (ti τ x z))=some r)∨(op= .neq∧K (.val .bool (!ti τ x z))=some r))):=by
 unfold FG at h
 split at h
 ·exact .inl ⟨_,_,_,_,rfl,rfl,h⟩
 ·right
  split at h
  ·cases h
  ·obtain⟨e,h1⟩:=dt h
   clear h
   subst e
   obtain⟨hc,h⟩:=bN h1
   clear h1
   split at h
   ·obtain⟨e,h1⟩:=bh h
    subst e
    exact⟨_,rfl,rfl,hc,.inl ⟨rfl,h1⟩⟩
   ·obtain⟨e,h1⟩:=bh h
    subst e
    exact⟨_,rfl,rfl,hc,.inr ⟨rfl,h1⟩⟩
   ·cases h
theorem C0{t:TypeId}(hu:P.underlying t=some .bool)(x y:Bool)(w:World):(Op.equal t (.bool x) (.bool y)).run P w= .ok (x==y) w:=by
 unfold Op.equal
 obtain⟨n,hn⟩: ∃n,Op.maxDepth=n+1:=⟨9999,rfl⟩
 rw[hn]
 simp[Op.equalIn,run_underlying hu]
theorem run_eql_bool{t:TypeId}(hu:P.underlying t=some .bool)(x y:Bool):(binOp .eql t (.bool x) (.bool y)).run P w= .ok (.bool (x==y)) w:=by
 simp[binOp,C0 hu]
theorem run_neq_bool{t:TypeId}(hu:P.underlying t=some .bool)(x y:Bool):(binOp .neq t (.bool x) (.bool y)).run P w= .ok (.bool (!(x==y))) w:=by
 simp[binOp,C0 hu]
theorem al9(x y:ByteArray):(x.toList==y.toList)=decide (x.toList=y.toList):=by
 rw[oZ];simp
theorem ML{t:TypeId}(x y:ByteArray):(binOp .eql t (.string x) (.string y)).run P w= .ok (.bool (decide (x.toList=y.toList))) w:=by
 simp[binOp,Op.stringOp,al9]
theorem MM{t:TypeId}(x y:ByteArray):(binOp .neq t (.string x) (.string y)).run P w= .ok (.bool (!decide (x.toList=y.toList))) w:=by
 simp[binOp,Op.stringOp,al9]
theorem VQ(hE:EnvTy P E)(hc:Core c σ a.tmps w M ν){b:BinOp}{t t':TypeId}{x y:Operand}(ho:o.op= .binOp b t x y t'){K:fV α}
  (h:Mt (σ.ρ x) (fun τ x=>Mt (σ.ρ y) fun υ y=>FG (E.ty t) b τ x υ y λv=>K v [] [])=some r) (hn:eW c σ a o w M ν K r next):o.wp P a w next Q:=by
 have hx:=hc.ev x
 have hy:=hc.ev y
 unfold Mt at h
 split at h
 ·rename_i τ x' ZE
  split at h
  ·rename_i υ y' hye
   rw[ZE]at hx;rw[hye]at hy
   rcases Tx h with⟨k,k',m,n,e1,e2,h1⟩|⟨z,e2,ht,EG,h1⟩
   ·rw[e1]at hx;rw[e2]at hy
    have hx:=hx.int
    have hy:=hy.int
    cases hs:Zs b
    ·rw[hs]at h1
     replace h1:(if k=k' then uW b k m n (λv=>K v [] [])else none)=some r:=h1
     split at h1
     ·rename_i hk;subst hk
      obtain⟨v,u,hK,cU,hVR⟩:=Kt (P:=P) (w:=w) (M:=M) (ν:=ν) (t:=t) h1
      exact aS (qq ho (by rw[hx,hy];exact pS w) (by rw[hx,hy];exact cU)) (hn _ [] [] _ _ _ _ hK (.refl hc.mem) (hVR _))
     ·cases h1
    ·rw[hs]at h1
     replace h1:Zr b k m n (λv=>K v [] [])=some r:=h1
     obtain⟨z,hK,cU⟩:=Tw (P:=P) (w:=w) (k':=k') (t:=t) h1
     exact aS (qq ho (by rw[hx,hy];exact pS w) (by rw[hx,hy];exact cU)) (hn _ [] [] _ _ _ _ hK (.refl hc.mem) (.mkInt _ _))
   ·rw[e2]at hy
    have key:(eqGuard b t x y (a.eval x) (a.eval y)).run P w= .ok () w∧(binOp .eql t (a.eval x) (a.eval y)).run P w= .ok (.bool (ti τ x' z)) w∧(binOp .neq t (a.eval x) (a.eval y)).run P w= .ok (.bool (!ti τ x' z)) w:=by
     by_cases FK:τ.isAgg=true
     ·simp only[VR]at hx hy
      exact hE.eq t τ ht EG FK w M _ _ _ _ b x y hx hy
     ·have hl:=hE.ty t τ ht
      cases τ with
      |int k=>
       rw[hx.int,hy.int]
       refine⟨pS w,?_,?_⟩
       ·simp[binOp,Op.intCmp,ti,jj];rfl
       ·simp[binOp,Op.intCmp,ti,jj];rfl
      |bool=>rw[hx.bool,hy.bool];exact⟨BQ w,run_eql_bool hl.bool _ _,run_neq_bool hl.bool _ _⟩
      |str=>rw[hx.str,hy.str];exact⟨D0 w,by rw[ML];simp[ti,FF],by rw[MM];simp[ti,FF]⟩
      |slice e=>simp[Ty.comparable]at EG
      |unit=>simp[Ty.isAgg]at FK
      |pair _ _=>simp[Ty.isAgg]at FK
      |arr _ _=>simp[Ty.isAgg]at FK
    obtain⟨hg,h2,h3⟩:=key
    rcases h1 with⟨rfl,hK⟩|⟨rfl,hK⟩
    ·exact aS (qq ho hg h2) (hn _ [] [] _ _ _ _ hK (.refl hc.mem) (.u6 _))
    ·exact aS (qq ho hg h3) (hn _ [] [] _ _ _ _ hK (.refl hc.mem) (.u6 _))
  ·cases h
 ·cases h
theorem ZF(hc:Core c σ a.tmps w M ν){u:UnOp}{t:TypeId}{x:Operand}(ho:o.op= .unOp u t x){K:fV α}
  (h:Tj u (σ.ρ x) (λv=>K v [] [])=some r) (hn:eW c σ a o w M ν K r next):o.wp P a w next Q:=by
 have hx:=hc.ev x
 unfold Tj at h
 split at h
 ·rename_i k n ZE
  rw[ZE]at hx
  refine aS (w6 ho (v:= .int k (k.wrap (0-n))) ?_) (hn _ [] [] _ _ _ _ h (.refl hc.mem) (by rw[DW];exact .mkInt _ _))
  rw[hx.int];simp[Op.unary,Op.intArith]
 ·rename_i k n ZE
  rw[ZE]at hx
  refine aS (w6 ho (v:= .int k (mX .xor k (if k.signed then-1 else k.max) n)) ?_) (hn _ [] [] _ _ _ _ h (.refl hc.mem) (.mkInt _ _))
  rw[hx.int,uU];simp[Op.unary,Op.intBits]
 ·rename_i b ZE
  rw[ZE]at hx
  refine aS (w6 ho (v:= .bool (!b)) ?_) (hn _ [] [] _ _ _ _ h (.refl hc.mem) (.u6 _))
  rw[hx.bool];simp[Op.unary]
 ·cases h
theorem mB{args:Array Operand}{ts:Array TypeId}{t:TypeId}{x:Operand}{n:Nat}(ho:o.op= .call {callee:= .builtin .len,args,argTypes:=ts})(ha:args.toList=[x])(_ht:ts.toList.head?=some t)
  (hl: ∀ty,(Builtin.len_ ts ty #[a.eval x]).run P w= .ok (goInt n) w):(execOp a.eval o).run P w= .ok (.value (.int .i64 n)) w:=by
 obtain⟨cs,hr⟩:=ns (P:=P) (ρ:=a.eval) ho (w:=w)
 rw[hr]
 have:args.map a.eval= #[a.eval x]:=by apply gb;simp[ha]
 rw[this]
 simp[builtin,hl,goInt]
theorem ZG{ts:Array TypeId}{t ty:TypeId}(ht:ts[0]? =some t)(hu:P.underlying t=some .string)(s:ByteArray):(Builtin.len_ ts ty #[.string s]).run P w= .ok (goInt s.size) w:=by
 simp[Builtin.len_,ht,run_underlying hu]
theorem ZH{ts:Array TypeId}{t ty e:TypeId}{n:Nat}(ht:ts[0]? =some t)(hu:P.underlying t=some (.array n e))(v:Value):(Builtin.len_ ts ty #[v]).run P w= .ok (goInt n) w:=by
 simp[Builtin.len_,ht,run_underlying hu]
theorem ud{ts:Array TypeId}{t ty e:TypeId}(ht:ts[0]? =some t)(hu:P.underlying t=some (.slice e))(ad:Option Addr)(n cp:Nat):(Builtin.len_ ts ty #[.slice ad n cp]).run P w= .ok (goInt n) w:=by
 simp[Builtin.len_,ht,run_underlying hu]
theorem ER.FW{e:Ty}{l:List e.den}{v:Value}(h:ER w M v (.own e l)): ∃ad cp,v= .slice ad l.length cp:=by
 simp only[ER]at h
 rcases h with⟨rfl,a,hv⟩|⟨b,cs,t,cap,hv,_⟩
 ·exact⟨a,0,hv⟩
 ·exact⟨_,cap,hv⟩
theorem ER.VS{e:Ty}{l:List e.den}{v:Value}(h:ER w M v (.oN e l)): ∃ad cp,v= .slice ad l.length cp:=by
 simp only[ER]at h
 have h:=h.1
 simp only[Rd,eN,eA]at h
 obtain⟨a,cap,hv,_⟩:=h
 exact⟨a,cap,hv⟩
theorem ag8(hE:EnvTy P E)(hc:Core c σ a.tmps w M ν){args:Array Operand}{ts:Array TypeId}{x:Operand}(ho:o.op= .call {callee:= .builtin .len,args,argTypes:=ts})(ha:args.toList=[x]){K:fV α}{τ:Ty}
  (ht:(ts.toList.head?).bind E.ty=some τ) (h:Mu τ (σ.ρ x) σ.H K=some r) (hn:eW c σ a o w M ν K r next):o.wp P a w next Q:=by
 obtain⟨t,rA,RS⟩:=qm.1 ht
 have VT:ts[0]? =some t:=by rw[←rA,←fR,Ml]
 have hl:=hE.ty t τ RS
 have hv:=hc.ev x
 unfold Mu at h
 split at h
 ·rename_i e e' l hx
  obtain⟨_,hu,_⟩:=hl.slice
  rw[hx]at hv
  simp only[VR]at hv
  have hv:=V.slice.1 hv
  simp only[Rd,eN,eA]at hv
  obtain⟨ad,cap,hv,_⟩:=hv
  refine aS (mB ho ha rA (n:=ℓ l) λty=>by rw[hv];exact ud VT hu _ _ _) (hn _ [] [] _ _ _ _ h (.refl hc.mem) (.mkInt _ _))
 ·rename_i n e n' e' l hx
  obtain⟨_,hu,_⟩:=hl.arr
  refine aS (mB ho ha rA (n:=n) λty=>ZH VT hu _) (hn _ [] [] _ _ _ _ h (.refl hc.mem) (.mkInt _ _))
 ·rename_i s hx
  rw[hx]at hv
  refine aS (mB ho ha rA (n:=ByteArray.size s) λty=>by rw[hv.str];exact ZG VT hl.str _) (hn _ [] [] _ _ _ _ h (.refl hc.mem) (.mkInt _ _))
 ·rename_i e hx
  obtain⟨_,hu,_⟩:=hl.slice
  rw[hx]at hv
  simp only[VR]at hv
  obtain⟨ad,hv⟩:=hv
  refine aS (mB ho ha rA (n:=0) λty=>by rw[hv];exact ud VT hu _ _ _) (hn _ [] [] _ _ _ _ h (.refl hc.mem) (.mkInt _ _))
 ·rename_i e id hx
  obtain⟨_,hu,_⟩:=hl.slice
  rw[hx]at hv
  simp only[VR]at hv
  split at h
  ·rename_i e' l hid
   obtain⟨ad,cap,hh⟩:=(hc.mem.gT id _ hid).FW
   refine aS (mB ho ha rA (n:=l.length) λty=>by rw[hv.2,hh];exact ud VT hu _ _ _) (hn _ [id] [] _ _ _ _ h (.refl hc.mem) (.mkInt _ _))
  ·rename_i e' l hid
   obtain⟨ad,cap,hh⟩:=(hc.mem.gT id _ hid).VS
   refine aS (mB ho ha rA (n:=l.length) λty=>by rw[hv.2,hh];exact ud VT hu _ _ _) (hn _ [id] [] _ _ _ _ h (.refl hc.mem) (.mkInt _ _))
  ·cases h
 ·cases h
theorem MN{H:Nat→Option aW}(up:Bool): ∀(xs:List bk) (x:bk) (v:Value) (vs:List Value) (K:bk→Option α),VR w M H ν x v→jk w M H ν xs vs→Y1 up x xs K=some r→
  ∃x' v',K x'=some r∧(vs.foldlM (if up then Builtin.max2 else Builtin.min2) v).run P w= .ok v' w∧VR w M H ν x' v'
 |[],x,v,[],K,hx,_,h=>⟨x,v,h,by simp,hx⟩
 |[],_,_,_::_,_,_,hs,_=>by simp[jk]at hs
 |_::_,_,_,[],_,_,hs,_=>by simp[jk]at hs
 |y::xs,x,v,u::vs,K,hx,hs,h=>by
  simp only[jk]at hs
  obtain⟨hy,hs⟩:=hs
  unfold Y1 at h
  obtain⟨k,m,e1,h1⟩:=nu h
  obtain⟨k',n,e2,h2⟩:=nu h1
  clear h h1
  split at h2
  ·rename_i hk
   subst hk
   rw[e1]at hx;rw[e2]at hy
   have hx:=hx.int
   have hy:=hy.int
   obtain⟨x',v',hK,cU,hV⟩:=MN up xs _ (.int k (cond up (mx m n) (mn m n))) vs K (.mkInt _ _) hs h2
   refine⟨x',v',hK,?_,hV⟩
   rw[List.foldlM_cons,Sem.run_bind]
   have:((if up then Builtin.max2 else Builtin.min2) v u).run P w= .ok (.int k (cond up (mx m n) (mn m n))) w:=by
    rw[hx,hy]
    cases up
    ·simp[Builtin.min2,RL]
    ·simp[Builtin.max2,RK]
   rw[this]
   exact cU
  ·cases h2
theorem afz(hc:Core c σ a.tmps w M ν)(up:Bool){args:Array Operand}{ts:Array TypeId}{x:Operand}{xs:List Operand}(ho:o.op= .call {callee:= .builtin (if up then .max else .min),args,argTypes:=ts})(ha:args.toList=x::xs){K:fV α}
  (h:Y1 up (σ.ρ x) (xs.map σ.ρ) (λv=>K v [] [])=some r) (hn:eW c σ a o w M ν K r next):o.wp P a w next Q:=by
 obtain⟨x',v',hK,cU,hV⟩:=MN (P:=P) up (xs.map σ.ρ) (σ.ρ x) (a.eval x) (xs.map a.eval) _ (hc.ev x) (hc.evs xs) h
 refine aS ?_ (hn _ [] [] _ _ _ _ hK (.refl hc.mem) hV)
 obtain⟨cs,hr⟩:=ns (P:=P) (ρ:=a.eval) ho (w:=w)
 rw[hr]
 have hm:(args.map a.eval).toList=a.eval x::xs.map a.eval:=by simp[ha]
 cases up
 ·simp only[gW,eo,builtin,Builtin.min_,hm,Sem.run_bind]at cU ⊢
  rw[cU];simp
 ·simp only[gA,builtin,Builtin.max_,hm,Sem.run_bind]at cU ⊢
  rw[cU];simp
theorem Ir{ρ:Operand→Value}{t:TypeId}{x i:Operand}(ho:o.op= .index t x i){k:IntKind}{n:Int}{s:ByteArray}
  (hu:P.underlying t=some .string) (hx:ρ x= .string s) (hi:ρ i= .int k n) (h0:0≤n) (h1:n<(s.size:Int)):
  (execOp ρ o).run P w= .ok (.value (.int .u8 ((s.data.getD n.toNat 0).toNat:Int))) w:=by
 have dU:n.toNat<s.size:=ω
 have hs:s[n.toNat]? =some (s[n.toNat]'dU):=by simp[dU]
 have he:s[n.toNat]'dU=s.data.getD n.toNat 0:=by
  have xb:n.toNat<s.data.size:=dU
  rw[Array.getD,dif_pos xb];rfl
 simp[execOp,ho,hx,hi,Instr.index,asIntOf,run_underlying hu,h0,hs,he]
theorem VU(hE:EnvTy P E)(hc:Core c σ a.tmps w M ν){t:TypeId}{x i:Operand}(ho:o.op= .index t x i){K:fV α}{τ:Ty}(ht:E.ty t=some τ)
  (h:wY τ (σ.ρ x) (σ.ρ i) (λv=>K v [] [])=some r) (hn:eW c σ a o w M ν K r next):o.wp P a w next Q:=by
 unfold wY at h
 obtain⟨k,n,hi,h2⟩:=nu h
 clear h
 have h:=h2
 clear h2
 have MI:=hc.ev i
 rw[hi]at MI
 have MI:=MI.int
 have hv:=hc.ev x
 have u9:=hE.ty t τ ht
 split at h
 ·rename_i len e υ l hx
  obtain⟨e',LR,hle⟩:=u9.arr
  obtain⟨e1,h⟩:=bh h
  subst e1
  obtain⟨mi,h⟩:=bN h
  obtain⟨h0,h1⟩:=sV mi
  rw[hx]at hv
  simp only[VR]at hv
  obtain⟨cs,hu,hr⟩:=hv.agg rfl
  have eV:=hr.idx (i:=n.toNat) ω
  refine aS (Iq ho LR hle hu MI h0 h1 eV) (hn _ [] [] _ _ _ _ h (.refl hc.mem) ?_)
  simp only[VR]
  exact V.bD eV
 ·rename_i s hx
  obtain⟨mi,h⟩:=bN h
  obtain⟨h0,h1⟩:=sV mi
  rw[hx]at hv
  refine aS (Ir ho u9.str hv.str MI h0 h1) (hn _ [] [] _ _ _ _ h (.refl hc.mem) (.mkInt _ _))
 ·cases h
theorem lM(τ:Ty):τ.bS.length=τ.size:=(Rd.zero default (λ_=>False) τ).length
theorem D4{z:Array Value}{n i s:Nat}(hz:z.size=s)(hi:i*s+s≤n):((madeCells z n).toList.drop (i*s)).take s=z.toList:=by
 apply wG
 intro j
 rw[mf]
 split
 ·rename_i hj
  rw[mg,fR,fR]
  simp only[madeCells,Array.getElem?_map]
  rw[Array.getElem?_range,ak ω]
  simp only[Option.map_some]
  have:(i*s+j)%z.size=j:=by rw[hz,Ac,Nat.mul_add_mod,Nat.mod_eq_of_lt hj]
  rw[this,Mg ω,getElem!_pos z j ω]
 ·rename_i hj
  rw[fR,Mk ω]
theorem pO.made(w:World)(M:Nat→Prop)(e:Ty){n l:Nat}(h:l*e.size≤n):pO w M e (madeCells (bD e e.bS).cells n).toList (List.replicate l e.zero):=by
 intro i hi
 rw[bP]at hi
 have:=dJ (s:=e.size) hi
 rw[D4 (by rw[←ba,eX,lM]) ω,eX,zM]
 exact Rd.zero w M e
theorem ue{ρ:Operand→Value}{t:TypeId}{x y:Operand}(ho:o.op= .makeSlice t x y){v:Value}{w':World}(h:(Instr.makeSlice t (ρ x) (ρ y)).run P w= .ok v w'):(execOp ρ o).run P w= .ok (.value v) w':=by
 simp[execOp,ho,h]
theorem Ku(hE:EnvTy P E)(hc:Core c σ a.tmps w M ν){t:TypeId}{x y:Operand}(ho:o.op= .makeSlice t x y){K:fV α}{e:Ty}(ht:E.ty t=some (.slice e)){id:Nat}
  (h:wg (σ.ρ x) (λ_ l=>wg (σ.ρ y) λ_ c=>cond (iP l c)
   (qn σ.H id (.own e []) (K (.ref id) [id] [(id,some (.own e (List.replicate l.toNat e.zero)))])) none)=some r) (hn:eW c σ a o w M ν K r next):o.wp P a w next Q:=by
 obtain⟨k,l,hx,h1⟩:=nu h
 obtain⟨k',n,hy,h2⟩:=nu h1
 clear h h1
 obtain⟨hk,h⟩:=bN h2
 obtain⟨hid,h⟩:=ky h
 rw[BL]at hk
 obtain⟨h0,h1,h3⟩:=bl hk
 simp only[Al]at h3
 obtain⟨e',hu,hle⟩:=(hE.ty t _ ht).slice
 obtain⟨i,hi,hs,hz,hb⟩:=hle.base
 have H9:=hc.ev x
 have vQ:=hc.ev y
 rw[hx]at H9;rw[hy]at vQ
 have FX:(i.bytes:Int)*n≤281474976710656:=by
  have h4:(i.bytes:Int)≤2048:=ω
  have:(i.bytes:Int)*n≤2048*n:=qf h4 ω
  omega
 have cU:=run_make (P:=P) w t e' i _ hu hi hz k k' l n h0 h1 FX ω
 have hlen:(List.replicate l.toNat e.zero).length=l.toNat:=bP
 have fG:=Tr.row hc.mem hid e' (e:=e) (cs:=madeCells (bD e e.bS).cells (n.toNat*i.size)) (l:=List.replicate l.toNat e.zero) (cap:=n.toNat) (by rw[hlen];omega) (by simp[maxLen];omega)
  (by rw[size_madeCells,hs]) (pO.made w M e (wM ω ω))
 refine aS (ue ho (by rw[H9.int,vQ.int];exact cU)) (hn _ _ _ _ _ _ _ h fG ?_)
 simp only[VR]
 exact⟨by show bc σ.H id _ id≠none;rw[ar];simp,by simp[updν]⟩
theorem VV(off:Nat)(new cs:Array Value)(h:off+new.size≤cs.size):
  (new.zipIdx.foldl (λcs (x:Value×Nat)=>cs.setIfInBounds (off+x.2) x.1) cs)=(dI cs.toList off new.toList).toArray:=by
 have h1:new.zipIdx.foldl (λcs (x:Value×Nat)=>cs.setIfInBounds (off+x.2) x.1) cs=(new.toList.zipIdx 0).foldl (λcs (x:Value×Nat)=>cs.setIfInBounds (off+x.2) x.1) cs:=by
  rw[←Array.foldl_toList,Array.toList_zipIdx]
 rw[h1]
 obtain⟨hs,hk⟩:=Great.foldl_set off new.toList 0 cs
 apply Array.ext_getElem?
 intro k
 rw[hk k,←fR (xs:=cs)]
 have hl:new.toList.length=new.size:=ba
 have hc:cs.toList.length=cs.size:=ba
 unfold dI
 rw[wC]
 by_cases h2:k<off
 ·rw[ah ω,bU,qj (by rw[bE];omega),List.getElem?_take_of_lt h2]
 ·by_cases h3:k<off+new.size
  ·rw[ak ω,qj (by rw[aX,bE];omega),oJ (by rw[bE];omega),bE]
   congr 1
   omega
  ·rw[ah ω,oJ (by rw[aX,bE];omega),aX,bE,mg]
   congr 1
   omega
theorem xR{place:Nat→Option (Nat×Nat)}{cs:Array Value}{i:Nat}{v:Value}{rest:List (Nat×Value)}{off s:Nat}(hp:place i=some (off,s))(hs:v.cells.size=s)(h:off+s≤cs.size):
  Instr.fill place cs ((i,v)::rest)=Instr.fill place (dI cs.toList off v.cells.toList).toArray rest:=by
 have h1: ¬(decide (v.cells.size≠s)||decide (off+v.cells.size>cs.size))=true:=by simp[hs];omega
 conv=>lhs;unfold Instr.fill
 rw[hp]
 simp only
 rw[ah h1]
 congr 1
 exact VV off v.cells cs ω
theorem rB(a:Act)(ps:Array (Nat×Operand)):(ps.map λ(i,x)=>(i,a.eval x)).toList=ps.toList.map λp=>(p.1,a.eval p.2):=by
 rw[Array.toList_map]
def PR(w:World)(M:Nat→Prop)(H:Nat→Option aW)(ν:Nat→Value):List (Nat×bk)→List (Nat×Value)→Prop
 |[],[]=>True
 |p::ps,q::qs=>p.1=q.1∧VR w M H ν p.2 q.2∧PR w M H ν ps qs
 |_,_=>False
theorem PR.bG{w':World}{M':Nat→Prop}{H H':Nat→Option aW}{ν':Nat→Value}(k:dP w M w' M')(g:jC H ν H' ν'): ∀{ps:List (Nat×bk)} {qs:List (Nat×Value)},PR w M H ν ps qs→PR w' M' H' ν' ps qs
 |[],[],_=>trivial
 |_::_,_::_,h=>⟨h.1,h.2.1.bG k g,PR.bG k g h.2.2⟩
 |[],_::_,h=>h.elim
 |_::_,[],h=>h.elim
theorem Core.pr(hc:Core c σ a.tmps w M ν): ∀ps:List (Nat×Operand),PR w M σ.H ν (ps.map λp=>(p.1,σ.ρ p.2)) (ps.map λp=>(p.1,a.eval p.2))
 |[]=>trivial
 |p::ps=>⟨rfl,hc.ev p.2,hc.pr ps⟩
theorem C1{e:Ty}{n:Nat}{H:Nat→Option aW}: ∀(ps:List (Nat×bk)) (qs:List (Nat×Value)) (H1:Nat→Option aW) (M:Nat→Prop) (l:List e.den) (cs:Array Value) (rd:List Nat) (ups:ig) (K:List e.den→List Nat→ig→Option α),
  Fz H H1→Mem c H1 w M ν→PR w M H1 ν ps qs→l.length=n→cs.size=n*e.size→pO w M e cs.toList l→H1=cj H ups→wU e H n ps l rd ups K=some r→
  ∃l' xL iR M' cs',K l' xL iR=some r∧Tr c H1 w M ν (cj H iR) w M' ν∧Fz H (cj H iR)∧l'.length=n∧cs'.size=n*e.size∧pO w M' e cs'.toList l'∧
   Instr.fill (λi=>some (i*e.size,e.size)) cs qs=some cs':=by
 intro ps
 induction ps with
 |nil=>
  intro qs H1 M l cs rd ups K hz hm hp hl hs hr hH h
  cases qs with
  |cons _ _=>exact hp.elim
  |nil=>exact⟨l,rd,ups,M,cs,h,hH▸Tr.refl hm,hH▸hz,hl,hs,hr,rfl⟩
 |cons p ps ih=>
  intro qs H1 M l cs rd ups K hz hm hp hl hs hr hH h
  cases qs with
  |nil=>exact hp.elim
  |cons q qs=>
   obtain⟨h1,h2,h3⟩:=hp
   unfold wU at h
   obtain⟨hb,h⟩:=bN h
   have dU:p.1<n:=by simpa [Ai]using hb
   obtain⟨y,VW,BW,M1,h,fG,hV,yP,_⟩:=ku hz hm h2 h
   have hlen:(q.2.cells).size=e.size:=by rw[←ba];exact hV.cells.length
   have hmul:=dJ (s:=e.size) dU
   have ry:=pO.set (hr.bG fG.bG) (by rw[hl,ba,hs];exact aI _) (i:=p.1) ω hV.cells
   obtain⟨l',xL,iR,M',cs',hK,Qn,H6,HZ,P6,eV,hf⟩:=ih qs (cj H1 BW) M1 (l.set p.1 y) (dI cs.toList (p.1*e.size) q.2.cells.toList).toArray (VW++rd) (ups++BW) K yP fG.mem (h3.bG fG.bG fG.goes)
    (by rw[bs];exact hl) (by rw[iI,dv (by rw[ba,ba];omega),ba,hs]) ry (by rw[ed,hH]) h
   refine⟨l',xL,iR,M',cs',hK,fG.trans Qn,H6,HZ,P6,eV,?_⟩
   rw[xR (off:=p.1*e.size) (s:=e.size) (by rw[h1]) hlen ω]
   exact hf
theorem Kv{τ:Ty}{H:Nat→Option aW}{place:Nat→Option (Nat×Nat)}(C2: ∀(x:τ.den) n υ y o,CS τ x n υ y o→place n=some (o,υ.size)):
  ∀(ps:List (Nat×bk)) (qs:List (Nat×Value)) (H1:Nat→Option aW) (M:Nat→Prop) (x:τ.den) (cs:Array Value) (rd:List Nat) (ups:ig) (K:τ.den→List Nat→ig→Option α),
  Fz H H1→Mem c H1 w M ν→PR w M H1 ν ps qs→Rd w M τ cs.toList x→H1=cj H ups→ly τ H ps x rd ups K=some r→
  ∃x' xL iR M' cs',K x' xL iR=some r∧Tr c H1 w M ν (cj H iR) w M' ν∧Fz H (cj H iR)∧Rd w M' τ cs'.toList x'∧Instr.fill place cs qs=some cs'∧
   ∀m υ,yr τ m=some υ→(ps.all λp=> !(Nat.beq p.1 m))=true→(cs'.toList.drop (fF τ m)).take υ.size=(cs.toList.drop (fF τ m)).take υ.size:=by
 intro ps
 induction ps with
 |nil=>
  intro qs H1 M x cs rd ups K hz hm hp hr hH h
  cases qs with
  |cons _ _=>exact hp.elim
  |nil=>exact⟨x,rd,ups,M,cs,h,hH▸Tr.refl hm,hH▸hz,hr,rfl,λ_ _ _ _=>rfl⟩
 |cons p ps ih=>
  intro qs H1 M x cs rd ups K hz hm hp hr hH h
  cases qs with
  |nil=>exact hp.elim
  |cons q qs=>
   obtain⟨h1,h2,h3⟩:=hp
   unfold ly at h
   obtain⟨υ,y0,of,hf,h⟩:=pd h
   obtain⟨y,VW,BW,M1,h,fG,hV,yP,_⟩:=ku hz hm h2 h
   obtain⟨υ',y',o',k',yx,iS,rz⟩:=kv h
   obtain⟨rfl,rfl⟩:=yx.eq
   obtain⟨rfl,rfl⟩:=hf.eq
   obtain⟨e1,zz⟩:=bh iS
   obtain⟨x',qt,_,kd⟩:=rz _ _ zz
   have hlen:(q.2.cells).size=(sA τ p.1).size:=by rw[←ba];exact hV.cells.length
   have hb:=hf.bound
   have D2:=hr.length
   rw[ba]at D2
   obtain⟨x2,xL,iR,M',cs',hK,Qn,H6,eV,H8,VX⟩:=ih qs (cj H1 BW) M1 x' (dI cs.toList (fF τ p.1) q.2.cells.toList).toArray (VW++rd) (ups++BW) K yP fG.mem (h3.bG fG.bG fG.goes)
    (kd w M1 _ _ (hr.bG fG.bG) hV.cells) (by rw[ed,hH]) qt
   refine⟨x2,xL,iR,M',cs',hK,fG.trans Qn,H6,eV,?_,λm υ iS iT=> ?_⟩
   ·rw[xR (off:=fF τ p.1) (s:=(sA τ p.1).size) (by rw[←h1];exact C2 _ _ _ _ _ hf) hlen ω]
    exact H8
   ·rw[Ab,bQ]at iT
    rw[VX m υ iS iT.2]
    obtain⟨y2,o2,hf2⟩:=kq iS x
    obtain⟨e3,e4⟩:=hf2.eq
    subst e3 e4
    have ij:p.1≠m:=λe=>by have:=iT.1;rw[e,o7]at this;cases this
    have hap:=hf.apart hf2 ij
    have qO:=hf2.bound
    show((dI cs.toList (fF τ p.1) q.2.cells.toList).drop _).take _=_
    rw[EE (by rw[ba];omega) (by rw[ba,ba];omega)]
theorem fP.places: ∀(τ:Ty) (fs:Array Field) (n off:Nat),fP P τ (.inr (fs,n,off))→
  ∃ps,(fs.toList.drop n).mapM (λf=>(P.info? f.type).map λi=>(f.offset,i.size))=some ps∧ ∀(x:τ.den) m υ y o,CS τ x m υ y o→ps[m]? =some (off+o,υ.size)
 | .unit,fs,n,off,h=>by
  simp only[fP]at h
  refine⟨[],?_,λx m υ y o hf=>by cases hf⟩
  rw[jN (by rw[ba];omega)];rfl
 | .pair t b,fs,n,off,h=>by
  simp only[fP]at h
  obtain⟨f,hf,ho,ha,hb⟩:=h
  obtain⟨ps,Ia,H8⟩:=fP.places b fs (n+1) (off+t.size) hb
  obtain⟨i,hi,hs,_⟩:=(show jX P t f.type from ha).base
  have dU:n<fs.toList.length:=by rw[ba];exact(kP.1 hf).1
  have hfe:fs.toList[n]=f:=by rw[zQ];exact(kP.1 hf).2
  refine⟨(off,t.size)::ps,?_,λx m υ y o yx=> ?_⟩
  ·rw[nc dU,Aa,Ia,hfe,hi]
   simp[ho,hs]
  ·cases yx with
   |here=>simp
   |there _ h'=>simp[H8 _ _ _ _ _ h',o6]
 | .int _,_,_,_,h| .bool,_,_,_,h| .str,_,_,_,h| .slice _,_,_,_,h| .arr _ _,_,_,_,h=>by simp[fP]at h
theorem jX.places{τ:Ty}{t:TypeId}(h:jX P τ t)(ha:τ.isAgg=true)(hn: ∀n e,τ≠ .arr n e):
  ∃fs ps,P.underlying t=some (.struct fs)∧fs.toList.mapM (λf=>(P.info? f.type).map λi=>(f.offset,i.size))=some ps∧ ∀(x:τ.den) m υ y o,CS τ x m υ y o→ps[m]? =some (o,υ.size):=by
 cases τ with
 |unit=>
  simp only[jX,fP]at h
  obtain⟨_,fs,hu,hs⟩:=h
  refine⟨fs,[],hu,?_,λx m υ y o hf=>by cases hf⟩
  have:fs.toList=[]:=qg (by rw[ba];exact hs)
  rw[this];rfl
 |pair t' b=>
  simp only[jX,fP]at h
  obtain⟨_,fs,f,hu,hf,ho,ha',hb⟩:=h
  have hg:fP P (.pair t' b) (.inr (fs,0,0)):=by
   simp only[fP]
   exact⟨f,hf,ho,ha',by simpa using hb⟩
  obtain⟨ps,Ia,H8⟩:=fP.places _ fs 0 0 hg
  exact⟨fs,ps,hu,Ia,λx m υ y o yx=>by simpa using H8 x m υ y o yx⟩
 |arr n e=>exact absurd rfl (hn n e)
 |int _=>simp[Ty.isAgg]at ha
 |bool=>simp[Ty.isAgg]at ha
 |str=>simp[Ty.isAgg]at ha
 |slice _=>simp[Ty.isAgg]at ha
theorem vd{ρ:Operand→Value}{t:TypeId}{ps:Array (Nat×Operand)}(ho:o.op= .build t ps){v:Value}(h:(Instr.build t (ps.map λ(i,x)=>(i,ρ x))).run P w= .ok v w):(execOp ρ o).run P w= .ok (.value v) w:=by
 simp[execOp,ho,h]
theorem AE{ρ:Operand→Value}{t:TypeId}{n:Nat}{ps:Array (Nat×Operand)}(ho:o.op= .buildSlice t n ps){v:Value}{w':World}(h:(Instr.buildSlice t n (ps.map λ(i,x)=>(i,ρ x))).run P w= .ok v w'):(execOp ρ o).run P w= .ok (.value v) w':=by
 simp[execOp,ho,h]
theorem VR.RT{H:Nat→Option aW}{τ:Ty}(ha:τ.isAgg=true){cs:Array Value}{x:τ.den}(h:Rd w M τ cs.toList x):VR w M H ν (.val τ x) (.agg cs):=by
 simp only[VR,V];rw[ak ha];exact⟨cs,rfl,h⟩
theorem Kw(hE:EnvTy P E)(hc:Core c σ a.tmps w M ν){t:TypeId}{ps:Array (Nat×Operand)}(ho:o.op= .build t ps){K:fV α}{n:Nat}{e:Ty}(ht:E.ty t=some (.arr n e))
  (h:wU e σ.H n (partsOf σ.ρ ps) (List.replicate n e.zero) [] [] (λl rd ups=>K (.val (.arr n e) l) rd ups)=some r) (hn:eW c σ a o w M ν K r next):o.wp P a w next Q:=by
 have hl:=hE.ty t _ ht
 obtain⟨e',hu,hle⟩:=hl.arr
 obtain⟨i,hi,hs,hz,_⟩:=hl.base
 obtain⟨ie,hie,hes,_⟩:=hle.base
 have MO:=Rd.arr.1 (Rd.zero w M (.arr n e))
 obtain⟨l',xL,iR,M',cs',hK,fG,H6,HZ,P6,eV,hf⟩:=C1 (partsOf σ.ρ ps) (ps.toList.map λ(p:Nat×Operand)=>(p.1,a.eval p.2)) σ.H M (List.replicate n e.zero) (Ty.bS (.arr n e)).toArray [] [] _ (.refl _) hc.mem (hc.pr ps.toList)
  (by rw[bP]) (by rw[iI];exact MO.2.1) MO.2.2 rfl h
 refine aS (vd ho (run_build w t _ cs' ?_)) (hn _ _ _ _ _ _ _ hK fG (VR.RT rfl (Rd.arr.2 ⟨HZ,by rw[ba];exact P6,eV⟩)))
 unfold Program.built
 rw[hi,hu]
 simp only[hz,hie,hes,rB]
 exact hf
theorem D5(hE:EnvTy P E)(hc:Core c σ a.tmps w M ν){t:TypeId}{ps:Array (Nat×Operand)}(ho:o.op= .build t ps){K:fV α}{τ:Ty}(ht:E.ty t=some τ)(VY: ∀n e,τ≠ .arr n e)
  (h:cond τ.isAgg (ly τ σ.H (partsOf σ.ρ ps) τ.zero [] [] (λl rd ups=>K (Zt E (partsOf σ.ρ ps) τ l) rd ups)) none=some r) (hn:eW c σ a o w M ν K r next):o.wp P a w next Q:=by
 obtain⟨FK,h⟩:=bN h
 have hl:=hE.ty t _ ht
 obtain⟨fs,pl,hu,Ia,C2⟩:=hl.places FK VY
 obtain⟨i,hi,hs,hz,_⟩:=hl.base
 obtain⟨l',xL,iR,M',cs',hK,fG,H6,eV,hf,VX⟩:=Kv (place:=(pl.toArray[·]?)) (λx n υ y o hf=>by simpa using C2 x n υ y o hf) (partsOf σ.ρ ps) (ps.toList.map λ(p:Nat×Operand)=>(p.1,a.eval p.2)) σ.H M τ.zero τ.bS.toArray [] [] _ (.refl _) hc.mem (hc.pr ps.toList)
  (Rd.zero w M τ) rfl h
 have ZB:VR w M' (cj σ.H iR) ν (Zt E (partsOf σ.ρ ps) τ l') (.agg cs'):=by
  unfold Zt
  split
  ·rename_i n e qp
   cases iT:(partsOf σ.ρ ps).all λp=> !(Nat.beq p.1 n)
   ·exact VR.RT FK eV
   ·have hq:=Kq qp
    show VR w M' (cj σ.H iR) ν (.Kh τ l' n) (.agg cs')
    have hv:=VR.RT (H:=cj σ.H iR) (ν:=ν) FK eV
    simp only[VR]at hv ⊢
    refine⟨hv,cs',none,rfl,?_⟩
    have Tv:yr τ n=some (.slice e):=by
     unfold eR at hq
     split at hq
     ·rename_i a ha
      rw[ha]
      have:=bl hq
      rw[this]
     ·cases hq
    have h2:=VX n _ Tv iT
    have h3:=BR hq
    simp only[cn,kf]at h3
    have h4:=gz (λl=>l[0]?) h2
    simp only[mf,mg,kf]at h4
    rw[ak (show 0<(Ty.slice e).size from Nat.one_pos),ak (show 0<(Ty.slice e).size from Nat.one_pos)]at h4
    rw[h4];exact h3
  ·exact VR.RT FK eV
 refine aS (vd ho (run_build w t _ cs' ?_)) (hn _ _ _ _ _ _ _ hK fG ZB)
 unfold Program.built
 rw[hi,hu]
 have hzc:(bD τ τ.bS).cells=τ.bS.toArray:=by apply gb;rw[eX]
 simp only[hz,Ia,rB,hzc]
 exact hf
theorem Qo{ps:List (Nat×bk)}{τ:Ty}{n k:Nat}(h:Ki E ps τ=some (n,k)):(∃e,eR [.gr n] τ (.slice e)=true)∧(∀p∈ps,p.1=n→p.2= .ref k)∧ ∃p∈ps,p.1=n:=by
 unfold Ki at h
 split at h
 ·rename_i m e Tq qp
  split at h
  ·rename_i i j hf
   cases h
   refine⟨⟨e,Kq qp⟩,λp hp LS=> ?_,?_⟩
   ·have:p∈ps.filter λp=>Nat.beq p.1 n:=nh.2 ⟨hp,by rw[LS];exact o7 n⟩
    rw[hf,cg]at this
    rw[this]
   ·have:(i,bk.ref k)∈ps.filter λp=>Nat.beq p.1 n:=by rw[hf];simp
    obtain⟨h1,h2⟩:=nh.1 this
    exact⟨_,h1,eK h2⟩
  ·cases h
 ·cases h
theorem Is{τ:Ty}{H:Nat→Option aW}{place:Nat→Option (Nat×Nat)}(C2: ∀(x:τ.den) n υ y o,CS τ x n υ y o→place n=some (o,υ.size)){n k:Nat}{e:Ty}(hq:yr τ n=some (.slice e))(BP:(ν k).cells= #[ν k]):
  ∀(ps:List (Nat×bk)) (qs:List (Nat×Value)) (H1:Nat→Option aW) (M:Nat→Prop) (x:τ.den) (cs real:Array Value) (u:Value) (rd:List Nat) (ups:ig) (K:τ.den→List Nat→ig→Option α),
  Fz H H1→Mem c H1 w M ν→PR w M H1 ν ps qs→(∀p∈ps,p.1=n→p.2= .ref k)→Rd w M τ cs.toList x→real.toList=dI cs.toList (fF τ n) [u]→H1=cj H ups→ly τ H (wZ n ps) x rd ups K=some r→
  ∃x' xL iR M' u',∃(cs' AF:Array Value),K x' xL iR=some r∧Tr c H1 w M ν (cj H iR) w M' ν∧Fz H (cj H iR)∧Rd w M' τ cs'.toList x'∧Instr.fill place real qs=some AF∧AF.toList=dI cs'.toList (fF τ n) [u']∧
   (u'=ν k∨(u'=u∧ ∀p∈ps,p.1≠n)):=by
 intro ps
 induction ps with
 |nil=>
  intro qs H1 M x cs real u rd ups K hz hm hp iT hr hu hH h
  cases qs with
  |cons _ _=>exact hp.elim
  |nil=>exact⟨x,rd,ups,M,u,cs,real,h,hH▸Tr.refl hm,hH▸hz,hr,rfl,hu,.inr ⟨rfl,λ_ h=>by simp at h⟩⟩
 |cons p ps ih=>
  intro qs H1 M x cs real u rd ups K hz hm hp iT hr hu hH h
  cases qs with
  |nil=>exact hp.elim
  |cons q qs=>
   obtain⟨h1,h2,h3⟩:=hp
   have afA: ∀p∈ps,p.1=n→p.2= .ref k:=λp hp=>iT p (a6 _ hp)
   obtain⟨yn,on,hfn⟩:=kq hq x
   have hbn:=hfn.bound
   have hon:=hfn.eq.2
   subst hon
   rw[show(Ty.slice e).size=1 from rfl]at hbn
   have D2:=hr.length
   rw[ba]at D2
   have hrs:real.size=cs.size:=by
    have h0:fF τ n+[u].length≤cs.toList.length:=by rw[ba];exact ca hbn (Nat.le_of_eq D2.symm)
    rw[←ba,hu,dv h0,ba]
   by_cases LS:p.1=n
   ·
    have Tz:=iT p bu LS
    have hb:Nat.beq p.1 n=true:=by rw[LS];exact o7 n
    have h:ly τ H ((p.1,bk.emp)::wZ n ps) x rd ups K=some r:=by
     have e1:wZ n (p::ps)=(p.1,bk.emp)::wZ n ps:=by simp[wZ,hb]
     rw[e1]at h;exact h
    unfold ly at h
    obtain⟨υ,y0,of,hf,h⟩:=pd h
    have hve:VR w M H1 ν .emp (.slice none 0 0):=by simp only[VR];exact⟨none,rfl⟩
    obtain⟨y,VW,BW,M1,h,fG,hV,yP,_⟩:=ku hz hm hve h
    obtain⟨υ',y',o',k',yx,iS,rz⟩:=kv h
    obtain⟨rfl,rfl⟩:=yx.eq
    obtain⟨rfl,rfl⟩:=hf.eq
    obtain⟨e1,zz⟩:=bh iS
    obtain⟨x',qt,_,kd⟩:=rz _ _ zz
    have pT:(sA τ p.1).size=1:=by
     have h5:=hfn.eq.1
     rw[LS,←h5];rfl
    rw[Tz]at h2
    simp only[VR]at h2
    have P7:=kd w M1 _ _ (hr.bG fG.bG) hV.cells
    have hcn:(Value.slice none 0 0).cells.toList=[.slice none 0 0]:=rfl
    rw[hcn]at P7
    obtain⟨x2,xL,iR,M',u',cs',AF,hK,Qn,H6,eV,H8,EH,hor⟩:=ih qs (cj H1 BW) M1 x' (dI cs.toList (fF τ p.1) [.slice none 0 0]).toArray (dI real.toList (fF τ n) [ν k]).toArray (ν k) (VW++rd) (ups++BW) K yP fG.mem (h3.bG fG.bG fG.goes) afA
     P7 (by
      show dI real.toList (fF τ n) [ν k]=dI (dI cs.toList (fF τ p.1) [.slice none 0 0]) (fF τ n) [ν k]
      rw[hu,LS,uc (by rw[ba];omega),uc (by rw[ba];omega)]) (by rw[ed,hH]) qt
    refine⟨x2,xL,iR,M',u',cs',AF,hK,fG.trans Qn,H6,eV,?_,EH,.inl (hor.elim id λh=>h.1)⟩
    have Zv:place q.1=some (fF τ n,1):=by rw[←h1,LS];exact C2 _ _ _ _ _ hfn
    rw[xR (off:=fF τ n) (s:=1) Zv (by rw[h2.2,BP];rfl) ω,h2.2,BP]
    exact H8
   ·have hb:Nat.beq p.1 n=false:=by
     cases hb:Nat.beq p.1 n
     ·rfl
     ·exact absurd (eK hb) LS
    have h:ly τ H (p::wZ n ps) x rd ups K=some r:=by
     have e1:wZ n (p::ps)=p::wZ n ps:=by simp[wZ,hb]
     rw[e1]at h;exact h
    unfold ly at h
    obtain⟨υ,y0,of,hf,h⟩:=pd h
    obtain⟨y,VW,BW,M1,h,fG,hV,yP,_⟩:=ku hz hm h2 h
    obtain⟨υ',y',o',k',yx,iS,rz⟩:=kv h
    obtain⟨rfl,rfl⟩:=yx.eq
    obtain⟨rfl,rfl⟩:=hf.eq
    obtain⟨e1,zz⟩:=bh iS
    obtain⟨x',qt,_,kd⟩:=rz _ _ zz
    have hlen:(q.2.cells).size=(sA τ p.1).size:=by rw[←ba];exact hV.cells.length
    have hbf:=hf.bound
    have hap:=hf.apart hfn LS
    rw[show(Ty.slice e).size=1 from rfl]at hap
    obtain⟨x2,xL,iR,M',u',cs',AF,hK,Qn,H6,eV,H8,EH,hor⟩:=ih qs (cj H1 BW) M1 x' (dI cs.toList (fF τ p.1) q.2.cells.toList).toArray (dI real.toList (fF τ p.1) q.2.cells.toList).toArray u (VW++rd) (ups++BW) K yP fG.mem (h3.bG fG.bG fG.goes) afA
     (kd w M1 _ _ (hr.bG fG.bG) hV.cells) (by
      show dI real.toList (fF τ p.1) q.2.cells.toList=dI (dI cs.toList (fF τ p.1) q.2.cells.toList) (fF τ n) [u]
      rw[hu]
      have hlu:[u].length=1:=rfl
      have hlq:q.2.cells.toList.length=(sA τ p.1).size:=by rw[ba];exact hlen
      exact MF (a:=[u]) (b:=q.2.cells.toList) (by rw[hlu,hlq];omega) (by rw[hlu,ba];omega) (by rw[hlq,ba];omega)) (by rw[ed,hH]) qt
    refine⟨x2,xL,iR,M',u',cs',AF,hK,fG.trans Qn,H6,eV,?_,EH,hor.imp id λh=>⟨h.1,λp' H4=>(bm.1 H4).elim (λe=>e▸LS) (h.2 p')⟩⟩
    rw[xR (off:=fF τ p.1) (s:=(sA τ p.1).size) (by rw[←h1];exact C2 _ _ _ _ _ hf) hlen ω]
    exact H8
theorem MP(hE:EnvTy P E)(hc:Core c σ a.tmps w M ν){t:TypeId}{ps:Array (Nat×Operand)}(ho:o.op= .build t ps){K:fV α}{τ:Ty}(ht:E.ty t=some τ)(VY: ∀n e,τ≠ .arr n e){n k:Nat}(hs:Ki E (partsOf σ.ρ ps) τ=some (n,k))
  (h:(match σ.H k with
   |some (.own _ _)=>cond τ.isAgg (ly τ σ.H (wZ n (partsOf σ.ρ ps)) τ.zero [] [] λx rd ups=>K (.Ij τ x n k) (k::rd) ups) none
   |_=>none)=some r) (hn:eW c σ a o w M ν K r next):o.wp P a w next Q:=by
 obtain⟨⟨e,hq⟩,iT,p0,It,arS⟩:=Qo hs
 split at h
 ·rename_i e' l hk
  obtain⟨FK,h⟩:=bN h
  have Tv:yr τ n=some (.slice e):=by
   unfold eR at hq
   split at hq
   ·rename_i a ha
    rw[ha]
    rw[show a= .slice e from bl hq]
   ·cases hq
  have BP:(ν k).cells= #[ν k]:=by
   have:=hc.mem.gT k _ hk
   simp only[ER]at this
   rcases this with⟨_,ad,hv⟩|⟨b,cs,t,cap,hv,_⟩<;>rw[hv]<;>rfl
  have hl:=hE.ty t _ ht
  obtain⟨fs,pl,hu,Ia,C2⟩:=hl.places FK VY
  obtain⟨i,hi,pT,hz,_⟩:=hl.base
  have P8:τ.bS[fF τ n]? =some (.slice none 0 0):=by simpa [cn]using BR hq
  obtain⟨x',xL,iR,M',u',cs',AF,hK,fG,H6,eV,hf,EH,hor⟩:=Is (place:=(pl.toArray[·]?)) (λx n υ y o hf=>by simpa using C2 x n υ y o hf) Tv BP (partsOf σ.ρ ps) (ps.toList.map λ(p:Nat×Operand)=>(p.1,a.eval p.2)) σ.H M τ.zero τ.bS.toArray τ.bS.toArray (.slice none 0 0) [] [] _ (.refl _) hc.mem (hc.pr ps.toList) iT
   (Rd.zero w M τ) (w4 P8).symm rfl h
  have ZI:u'=ν k:=hor.elim id λh=>absurd arS (h.2 p0 It)
  subst ZI
  refine aS (vd ho (run_build w t _ AF ?_)) (hn _ _ _ _ _ _ _ hK fG ?_)
  ·unfold Program.built
   rw[hi,hu]
   have hzc:(bD τ τ.bS).cells=τ.bS.toArray:=by apply gb;rw[eX]
   simp only[hz,Ia,rB,hzc]
   exact hf
  ·simp only[VR]
   refine⟨AF,cs'.toList,rfl,eV,EH,?_,qQ hq⟩
   obtain⟨e1,Ay,_⟩:=fG.goes.gT k _ hk
   rw[Ay];simp
 ·cases h
theorem Iu(hE:EnvTy P E)(hc:Core c σ a.tmps w M ν){t:TypeId}{n:Nat}{ps:Array (Nat×Operand)}(ho:o.op= .buildSlice t n ps){K:fV α}{e:Ty}(ht:E.ty t=some (.slice e)){id:Nat}
  (h:cond (Nat.ble (n*(e.size+1)) 16777216) (qn σ.H id (.own e []) (wU e σ.H n (partsOf σ.ρ ps) (List.replicate n e.zero) [] [] λl rd ups=>K (.ref id) (id::rd) (ups++[(id,some (.own e l))]))) none=some r)
  (hn:eW c σ a o w M ν K r next):o.wp P a w next Q:=by
 obtain⟨hb,h⟩:=bN h
 obtain⟨hid,h⟩:=ky h
 have hb:=zP hb
 rw[Nat.mul_add,wO]at hb
 obtain⟨e',hu,hle⟩:=(hE.ty t _ ht).slice
 obtain⟨ie,hie,hes,hz,_⟩:=hle.base
 obtain⟨l',xL,iR,M',cs',hK,fG,H6,HZ,P6,eV,hf⟩:=C1 (partsOf σ.ρ ps) (ps.toList.map λ(p:Nat×Operand)=>(p.1,a.eval p.2)) σ.H M (List.replicate n e.zero) (madeCells (bD e e.bS).cells (n*e.size)) [] [] _ (.refl _) hc.mem (hc.pr ps.toList)
  (by rw[bP]) (size_madeCells _ _) (pO.made w M e (aI _)) rfl h
 have agZ:cj σ.H iR id=none:=H6.none hid
 have w7:=fG.trans (Tr.row fG.mem agZ e' (e:=e) (cs:=cs') (l:=l') (cap:=n) ω (by simp[maxLen];omega) P6 eV)
 have cU:(Instr.buildSlice t n (ps.map λ(i,x)=>(i,a.eval x))).run P w= .ok (.slice (some ⟨w.heap.size,0,none⟩) n n) (w.alloc (.cells cs' e')):=by
  by_cases h0:n*e.size=0
  ·rw[h0]at hf
   have P9:madeCells (bD e e.bS).cells 0=(Array.range 0).map λi:Nat=>(#[]:Array Value)[i%0]! :=by simp[madeCells]
   rw[P9]at hf
   rw[←rB]at hf
   simp[Instr.buildSlice,run_underlying hu,Go.sizeOf,typeInfo,hie,hes,h0,newRow]at hf ⊢
   simp[hf]
  ·refine run_buildSlice w t e' n _ cs' ie _ hu hie hz (by rw[hes];omega) (by rw[hes];exact h0) ?_
   rw[hes,rB]
   exact hf
 refine aS (AE ho cU) (hn _ _ _ _ _ (λb=>M' b∨b=w.heap.size) (updν ν id (.slice (some ⟨w.heap.size,0,none⟩) l'.length n)) hK ?_ ?_)
 ·rw[ed];exact w7
 ·simp only[VR]
  exact⟨by rw[ed];show bc _ id _ id≠none;rw[ar];simp,by simp[updν,HZ]⟩
def Y6(o:Option Value)(d l:Int):Prop:=(o=none∧l=d)∨ ∃k,o=some (.int k l)
theorem pf(hc:Core c σ a.tmps w M ν){x:Option Operand}{d:Int}{k:Int→Option α}(h:yu (x.map σ.ρ) d k=some r): ∃l,k l=some r∧Y6 (x.map a.eval) d l:=by
 cases x with
 |none=>exact⟨d,h,.inl ⟨rfl,rfl⟩⟩
 |some x=>
  obtain⟨i,n,hx,h⟩:=nu (h:wg (σ.ρ x) (λ_ x=>k x)=some r)
  have hv:=hc.ev x
  rw[hx]at hv
  exact⟨n,h,.inr ⟨i,by rw[←hv.int];rfl⟩⟩
theorem vS{s:Bool}{len cap:Nat}{lo hi mx:Option Value}{l h m:Int}(wi:Y6 lo 0 l)(Ja:Y6 hi len h)(LV:Y6 mx cap m)(hm:mx.isNone=true∨hi.isSome=true)
  (h0:0≤l) (h1:l≤h) (h2:h≤m) (h3:m≤cap):(Instr.sliceBounds s len cap lo hi mx).run P w= .ok (l.toNat,h.toNat,m.toNat) w:=by
 have hb: ∀(k:IntKind) (i:Int) (y:Nat) cd,0≤i→i≤y→(Instr.sliceBound (.int k i) y cd).run P w= .ok i.toNat w:=by
  intro k i y cd h1 h2
  simp[Instr.sliceBound,asIntOf,h1,h2]
 have iS:((m.toNat:Nat):Int)=m:=ω
 have hh':((h.toNat:Nat):Int)=h:=ω
 rcases LV with⟨rfl,rfl⟩|⟨km,rfl⟩
 ·rcases Ja with⟨rfl,rfl⟩|⟨kh,rfl⟩
  ·rcases wi with⟨rfl,rfl⟩|⟨kl,rfl⟩
   ·simp[Instr.sliceBounds]
   ·simp[Instr.sliceBounds,hb kl l len _ h0 h1]
  ·rcases wi with⟨rfl,rfl⟩|⟨kl,rfl⟩
   ·simp[Instr.sliceBounds,hb kh h cap _ ω h2]
   ·simp[Instr.sliceBounds,hb kh h cap _ ω h2,hb kl l h.toNat _ h0 ω]
 ·rcases Ja with⟨rfl,rfl⟩|⟨kh,rfl⟩
  ·simp at hm
  ·rcases wi with⟨rfl,rfl⟩|⟨kl,rfl⟩
   ·simp[Instr.sliceBounds,hb km m cap _ ω h3,hb kh h m.toNat _ ω ω]
   ·simp[Instr.sliceBounds,hb km m cap _ ω h3,hb kh h m.toNat _ ω ω,hb kl l h.toNat _ h0 ω]
theorem Iv{ρ:Operand→Value}{t:TypeId}{x:Operand}{lo hi mx:Option Operand}(ho:o.op= .slice t x lo hi mx){s:ByteArray}{l h:Int}(hu:P.underlying t=some .string)(hx:ρ x= .string s)
  (wi:Y6 (lo.map ρ) 0 l) (Ja:Y6 (hi.map ρ) s.size h) (LV:mx.isNone=true) (h0:0≤l) (h1:l≤h) (h2:h≤s.size):(execOp ρ o).run P w= .ok (.value (.string (s.extract l.toNat h.toNat))) w:=by
 have hm:mx=none:=by simpa using LV
 subst hm
 have hb:=vS (P:=P) (w:=w) (s:=false) wi Ja (.inl ⟨rfl,rfl⟩) (.inl rfl) h0 h1 h2 (ec _)
 simp[execOp,ho,hx,Instr.sliceAt,Instr.slice,run_underlying hu,hb]
theorem qv{ρ:Operand→Value}{t e:TypeId}{x:Operand}{lo hi mx:Option Operand}(ho:o.op= .slice t x lo hi mx){τ:Ty}{ad:Option Addr}{len cap:Nat}{l h m:Int}(hu:P.underlying t=some (.slice e))(hle:jX P τ e)(hx:ρ x= .slice ad len cap)
  (wi:Y6 (lo.map ρ) 0 l) (Ja:Y6 (hi.map ρ) len h) (LV:Y6 (mx.map ρ) cap m) (hm:(mx.map ρ).isNone=true∨(hi.map ρ).isSome=true) (h0:0≤l) (h1:l≤h) (h2:h≤m) (h3:m≤cap):
  (execOp ρ o).run P w= .ok (.value (.slice (if m.toNat=l.toNat then ad else ad.map (·.add (l.toNat*τ.size))) (h.toNat-l.toNat) (m.toNat-l.toNat))) w:=by
 have hb:=vS (P:=P) (w:=w) (s:=true) wi Ja LV hm h0 h1 h2 h3
 simp[execOp,ho,hx,Instr.sliceAt,Instr.slice,run_underlying hu,hb,c6 hle]
theorem C3{x:Option Operand}(h:jO x=true)(a:Act): ∃k,x.map a.eval=some (.int k 0):=by
 unfold jO at h
 split at h
 ·rename_i k n
  have:n=0:=by simpa using h
  subst this
  exact⟨k,rfl⟩
 ·cases h
theorem Rd.cut{e:Ty}{ad:Option Addr}{len cap:Nat}{x:List e.den}(h:Rd w M (.slice e) [.slice ad len cap] x){l hh m:Int}(h0:0≤l)(h1:l≤hh)(h2:hh≤m)(hl:hh≤x.length):
  Rd w M (.slice e) [.slice (if m.toNat=l.toNat then ad else ad.map (·.add (l.toNat*e.size))) (hh.toNat-l.toNat) (m.toNat-l.toNat)] (List.drop l.toNat (List.take hh.toNat x)):=by
 simp only[Rd,eN,eA]at h ⊢
 obtain⟨a',nv,hv,hc,hr⟩:=h
 cases hv
 have hlen:ℓ (List.drop l.toNat (List.take hh.toNat x))=hh.toNat-l.toNat:=by rw[dy,bE];omega
 refine⟨_,_,by rw[hlen],by rw[hlen];omega,λi hi=> ?_⟩
 rw[hlen]at hi
 obtain⟨b,off,ha,hb,hm,cs,oO,kd⟩:=hr (l.toNat+i) ω
 rw[ah ω]
 refine⟨b,off+l.toNat*e.size,by rw[ha];simp[Addr.add_lit],hb,hm,cs,?_,?_⟩
 ·rw[show off+l.toNat*e.size+i*e.size=off+(l.toNat+i)*e.size from by rw[dR];omega];exact oO
 ·simp only[Fk,Fo,zX]at kd ⊢
  exact kd
theorem VR.emp{H:Nat→Option aW}{v:Value}:VR w M H ν .emp v↔ ∃ad,v= .slice ad 0 0:=by simp[VR]
theorem VZ(hE:EnvTy P E)(hc:Core c σ a.tmps w M ν){t:TypeId}{x:Operand}{lo hi mx:Option Operand}(ho:o.op= .slice t x lo hi mx){K:fV α}{τ:Ty}(ht:E.ty t=some τ)
  (h:rq τ (lo.isNone&&jO hi&&jO mx) (σ.ρ x) (lo.map σ.ρ) (hi.map σ.ρ) (mx.map σ.ρ) σ.H K=some r) (hn:eW c σ a o w M ν K r next):o.wp P a w next Q:=by
 have u9:=hE.ty t τ ht
 have hv:=hc.ev x
 have P8: ∀(e:Ty) (e':TypeId) (ad:Option Addr) (len cap:Nat),P.underlying t=some (.slice e')→jX P e e'→a.eval x= .slice ad len cap→(lo.isNone&&jO hi&&jO mx)=true→
   ∃ad',(execOp a.eval o).run P w= .ok (.value (.slice ad' 0 0)) w:=by
  intro e e' ad len cap hu hle hx hz
  simp only[bQ]at hz
  obtain⟨⟨h1,h2⟩,h3⟩:=hz
  have h1:lo=none:=by simpa using h1
  subst h1
  obtain⟨k2,h2⟩:=C3 h2 a
  obtain⟨k3,h3⟩:=C3 h3 a
  have:=qv (P:=P) (w:=w) ho hu hle hx (l:=0) (h:=0) (m:=0) (.inl ⟨rfl,rfl⟩) (.inr ⟨k2,h2⟩) (.inr ⟨k3,h3⟩) (.inr (by rw[h2];rfl)) ω ω ω ω
  exact⟨_,this⟩
 unfold rq at h
 split at h
 ·rename_i s hx
  obtain⟨hm,h⟩:=bN h
  obtain⟨l,h,wi⟩:=pf hc h
  obtain⟨hh,h,Ja⟩:=pf hc h
  obtain⟨hk,h⟩:=bN h
  rw[wR]at hk
  obtain⟨h0,h1,h2,h3⟩:=bl hk
  rw[hx]at hv
  exact aS (Iv ho u9.str hv.str wi Ja (by simpa using hm) h0 h1 h2) (hn _ [] [] _ _ _ _ h (.refl hc.mem) (.mkStr _))
 ·rename_i e hx
  obtain⟨e',hu,hle⟩:=u9.slice
  rw[hx]at hv
  obtain⟨ad,hv⟩:=VR.emp.1 hv
  cases hz:(lo.isNone&&jO hi&&jO mx)
  ·rw[hz]at h
   replace h:cond (mx.map σ.ρ).isNone (yu (lo.map σ.ρ) 0 λl=>yu (hi.map σ.ρ) 0 λh=>cond (jA l h 0 0) (K .emp [] []) none) none=some r:=h
   obtain⟨hm,h⟩:=bN h
   obtain⟨l,h,wi⟩:=pf hc h
   obtain⟨hh,h,Ja⟩:=pf hc h
   obtain⟨hk,hK⟩:=bN h
   rw[wR]at hk
   obtain⟨h0,h1,h2,h3⟩:=bl hk
   have iS:mx=none:=by simpa using hm
   subst iS
   have:=qv (P:=P) (w:=w) ho hu hle hv wi Ja (.inl ⟨rfl,rfl⟩) (.inl rfl) h0 h1 (m:=0) ω ω
   refine aS this (hn _ [] [] _ _ _ _ hK (.refl hc.mem) (VR.emp.2 ?_))
   rw[show hh.toNat-l.toNat=0 from by omega,show(0:Int).toNat-l.toNat=0 from by omega]
   exact⟨_,rfl⟩
  ·rw[hz]at h
   obtain⟨ad',cU⟩:=P8 e e' ad 0 0 hu hle hv hz
   exact aS cU (hn _ [] [] _ _ _ _ h (.refl hc.mem) (VR.emp.2 ⟨_,rfl⟩))
 ·rename_i e ij
  obtain⟨e',hu,hle⟩:=u9.slice
  cases hz:(lo.isNone&&jO hi&&jO mx)
  ·rw[hz]at h
   obtain⟨y,rd,ups,M',h,fG,hV,_⟩:=ku (.refl _) hc.mem hv h
   replace h:cond ((mx.map σ.ρ).isNone||(hi.map σ.ρ).isSome) (yu (lo.map σ.ρ) 0 λl=>yu (hi.map σ.ρ) (ℓ y:Int) λh=>yu (mx.map σ.ρ) (ℓ y:Int) λm=>
    cond (jA l h m (ℓ y:Int)) (K (.val (.slice e) (List.drop l.toNat (List.take h.toNat y))) rd ups) none) none=some r:=h
   obtain⟨hm,h⟩:=bN h
   obtain⟨l,h,wi⟩:=pf hc h
   obtain⟨hh,h,Ja⟩:=pf hc h
   obtain⟨m,h,LV⟩:=pf hc h
   obtain⟨hk,h⟩:=bN h
   rw[wR]at hk
   obtain⟨h0,h1,h2,h3⟩:=bl hk
   have hr:=V.slice.1 hV
   have eV:=hr
   simp only[Rd,eN,eA]at eV
   obtain⟨ad,cap,hx,ag7,_⟩:=eV
   rw[hx]at hr
   have iS:(mx.map a.eval).isNone=true∨(hi.map a.eval).isSome=true:=by
    simp only[ni,Option.isNone_map,Option.isSome_map]at hm ⊢;exact hm
   have V0: ∃m',Y6 (mx.map a.eval) cap m'∧hh≤m'∧m'≤cap:=by
    rcases LV with⟨h9,_⟩|⟨k,h9⟩
    ·exact⟨cap,.inl ⟨h9,rfl⟩,ω,ec _⟩
    ·exact⟨m,.inr ⟨k,h9⟩,h2,ω⟩
   obtain⟨m',V0,h4,h5⟩:=V0
   have cU:=qv (P:=P) (w:=w) ho hu hle hx wi Ja V0 iS h0 h1 h4 h5
   refine aS cU (hn _ _ _ _ _ M' _ h fG ?_)
   simp only[VR]
   exact V.slice.2 (hr.cut h0 h1 h4 ω)
  ·rw[hz]at h
   obtain⟨y,rd,h,hS⟩:=CV hc.mem hv h
   obtain⟨ad,cap,hx,_⟩:=hS
   obtain⟨ad',cU⟩:=P8 e e' ad _ cap hu hle hx hz
   exact aS cU (hn _ _ [] _ _ _ _ h (.refl hc.mem) (VR.emp.2 ⟨_,rfl⟩))
 ·cases h
theorem TA(hE:EnvTy P E)(hc:Core c σ a.tmps w M ν){t:TypeId}{x:Operand}{lo hi mx:Option Operand}(ho:o.op= .slice t x lo hi mx){K:fV α}{τ:Ty}(ht:E.ty t=some τ)
  (h:wX E τ (lo.isNone&&jO hi&&jO mx) (σ.ρ x) (lo.map σ.ρ) (hi.map σ.ρ) (mx.map σ.ρ) σ.H K=some r) (hn:eW c σ a o w M ν K r next):o.wp P a w next Q:=by
 unfold wX at h
 split at h
 ·rename_i e id lo' hvw hx wi Ja LV
  have u9:=hE.ty t _ ht
  obtain⟨e',hu,hle⟩:=u9.slice
  have hv:=hc.ev x
  rw[hx]at hv
  simp only[VR]at hv
  obtain⟨h0,hv⟩:=hv
  have h:yu (lo.map σ.ρ) 0 (λi=>match σ.H id with
   |some (.own e' l)=>iQ e' e (cond (jA i (ℓ l:Int) (ℓ l:Int) (ℓ l:Int)) (K (.sub id e i.toNat) [id] []) none)
   |_=>none)=some r:=by rw[wi];exact h
  obtain⟨i,h,hb⟩:=pf hc h
  split at h
  ·rename_i e2 l hid
   obtain⟨e1,h⟩:=dt h
   subst e1
   obtain⟨hk,h⟩:=bN h
   rw[wR]at hk
   obtain⟨h1,h2,_,_⟩:=bl hk
   obtain⟨ad,cap,Y7⟩:=ER.FW (hc.mem.gT id _ hid)
   have ag7:l.length≤cap:=by
    have:=hc.mem.gT id _ hid
    simp only[ER]at this
    rcases this with⟨rfl,a,Y5⟩|⟨b,cs,t,cp,Y5,_,_,_,hl,_⟩
    ·simp
    ·rw[Y7]at Y5;simp only[Value.slice.injEq]at Y5;obtain⟨_,_,rfl⟩:=Y5;exact hl
   have arT:hi=none:=by simpa using Ja
   have V0:mx=none:=by simpa using LV
   subst arT V0
   have cU:=qv (P:=P) (w:=w) ho hu hle (hv.trans Y7) (l:=i) (h:=(l.length:Int)) (m:=(cap:Int)) hb (.inl ⟨rfl,rfl⟩) (.inl ⟨rfl,rfl⟩) (.inl rfl) h1 h2 ω (ec _)
   refine aS cU (hn _ _ [] _ _ _ _ h (.refl hc.mem) ?_)
   simp only[VR]
   exact⟨h0,ad,_,cap,Y7,by simp⟩
  ·cases h
 ·exact VZ hE hc ho ht h hn
theorem xc{t ty e:TypeId}{i:TypeInfo}(ht:P.underlying t=some (.slice e))(hi:P.info? e=some i)(base:Option Addr)(n cap:Nat)(h:n≤cap)(a':Option Addr)(cp:Nat):
  (Builtin.append_ #[t,t] ty #[.slice base n cap,.slice a' 0 cp]).run P w= .ok (.slice base n cap) w:=by
 cases a'<;>cases base<;>simp[Builtin.append_,run_underlying ht,Go.sizeOf,typeInfo,hi,Builtin.lenOf,h,Builtin.firstCells,loadCells,loadCellsFrom,storeCells]
theorem MQ{t ty e te:TypeId}{i:TypeInfo}(ht:P.underlying t=some (.slice e))(hi:P.info? e=some i){b n cap m cp:Nat}{a':Addr}{news:List Value}{cs:Array Value}
  (hg:w.heap[b]? =some (.cells cs te (0,0))) (hs:cs.size=cap*i.size) (hl:news.length=m*i.size) (hn: ∀j u,news[j]? =some u→w.cell? (a'.add j)=some u) (h1: ∀u∈news,u.oneCell'=true) (hr:n+m≤cap):
  (Builtin.append_ #[t,t] ty #[.slice (some ⟨b,0,none⟩) n cap,.slice (some a') m cp]).run P w= .ok (.slice (some ⟨b,0,none⟩) (n+m) cap) (w.setRow b (dI cs.toList (n*i.size) news).toArray):=by
 have hf:=run_firstCells_some (P:=P) w i.size m a' m cp news hl hn
 have hm:(n+m)*i.size≤cap*i.size:=jh _ hr
 rw[dR]at hm
 have CY:=run_storeCells_at (P:=P) b (n*i.size) te news 0 cs w hg ω h1
 simp only[kf]at CY
 simp[Builtin.append_,run_underlying ht,Go.sizeOf,typeInfo,hi,Builtin.lenOf,hr,hf,Addr.add_lit,CY,dI]
theorem il{args:Array Operand}{t:TypeId}{x y:Operand}{v:Value}{w':World}(ho:o.op= .call {callee:= .builtin .append,args,argTypes:= #[t,t]})(ha:args.toList=[x,y])
  (h:(Builtin.append_ #[t,t] o.type #[a.eval x,a.eval y]).run P w= .ok v w'):(execOp a.eval o).run P w= .ok (.value v) w':=by
 obtain⟨cs,hr⟩:=ns (P:=P) (ρ:=a.eval) ho (w:=w)
 rw[hr]
 have:args.map a.eval= #[a.eval x,a.eval y]:=by apply gb;simp[ha]
 rw[this]
 simp[builtin,h]
theorem FY{H:Nat→Option aW}(hm:Mem c H w M ν){id:Nat}(hid:H id=none){t ty:TypeId}{e':TypeId}{e:Ty}(hu:P.underlying t=some (.slice e'))(hle:jX P e e')
  {xs ys:List e.den} {olds news:List Value} {base:Option Addr} {cap cp:Nat} {a':Addr} (V1:base=none→xs=[]∧cap=0)
  (wi:olds.length=xs.length*e.size) (hro:pO w M e olds xs) (ho: ∀b,base=some b→ ∀j u,olds[j]? =some u→w.cell? (b.add j)=some u)
  (Y8:news.length=ys.length*e.size) (hrn:pO w M e news ys) (hn: ∀j u,news[j]? =some u→w.cell? (a'.add j)=some u)
  (hg:cap<xs.length+ys.length) (hs:xs.length+ys.length<Al):
  ∃v w' M' ν',(Builtin.append_ #[t,t] ty #[.slice base xs.length cap,.slice (some a') ys.length cp]).run P w= .ok v w'∧Tr c H w M ν (bc H id (some (.own e (xs++ys)))) w' M' ν'∧ν' id=v:=by
 obtain⟨i,hi,pT,hz,hby⟩:=hle.base
 have hzs:(bD e e.bS).cells.size=e.size:=by rw[←ba,eX,lM]
 have h63:xs.length+ys.length≤maxLen:=by simp only[Al,maxLen]at hs ⊢;omega
 have FZ:(xs.length+ys.length)*i.bytes≤140737488355328:=by
  have:(xs.length+ys.length)*i.bytes≤68719476736*2048:=wM (by simp only[Al]at hs;omega) hby
  omega
 have cU: ∃nv rest,(Builtin.append_ #[t,t] ty #[.slice base xs.length cap,.slice (some a') ys.length cp]).run P w= .ok (.slice (some ⟨w.heap.size,0,none⟩) (xs.length+ys.length) nv) (w.drew.alloc (.cells (olds++news++rest).toArray e'))∧
   xs.length+ys.length≤nv∧nv≤maxLen∧rest.length=(nv-(xs.length+ys.length))*e.size:=by
  refine⟨grownCap w (xs.length+ys.length) cap e',(Builtin.zeroCells (bD e e.bS).cells (grownCap w (xs.length+ys.length) cap e'-(xs.length+ys.length))).toList,?_,grownCap_ge _ _ _ _,grownCap_le_maxLen _ _ _ _ h63,?_⟩
  ·cases base with
   |none=>
    obtain⟨rfl,rfl⟩:=V1 rfl
    have ho0:olds=[]:=qg (by rw[wi];simp)
    subst ho0
    have:=run_append_nil (P:=P) w t ty e' i _ hu hi hz a' ys.length cp news (by rw[Y8,pT]) hn (by simpa using hg) (by simp only[Al]at hs;omega) (by simp at FZ;omega)
    simp only[bY,fh,cM]
    rw[this]
    congr 2
    apply gz (λz=>Obj.cells z e' (0,0))
    apply gb;simp
   |some b=>
    have:=run_append_grow (P:=P) w t ty e' i _ hu hi hz b xs.length cap olds (by rw[wi,pT]) (ho b rfl) a' ys.length cp news (by rw[Y8,pT]) hn hg (by simp only[Al]at hs;omega) (growslice_fits hg FZ)
    rw[this]
    congr 2
    apply gz (λz=>Obj.cells z e' (0,0))
    apply gb;simp
  ·rw[ba,size_zeroCells,hzs]
 obtain⟨nv,rest,cU,zz,hc2,amc⟩:=cU
 have hlen:(xs++ys).length=xs.length+ys.length:=aX
 have hd:=Tr.drew hm
 have hon:(olds++news).length=(xs++ys).length*e.size:=by rw[aX,wi,Y8,hlen,dR]
 have D6:=Tr.row hd.mem hid e' (e:=e) (cs:=(olds++news++rest).toArray) (l:=xs++ys) (cap:=nv) (by rw[hlen];exact zz) hc2
  (by rw[iI,aX,hon,amc,hlen,←dR];congr 1;omega)
  (pO.more ((hro.append wi hrn).bG hd.bG) (by rw[hon];exact aI _))
 refine⟨_,_,_,_,cU,hd.trans D6,?_⟩
 rw[←hlen];simp[updν]
theorem TB(hE:EnvTy P E)(hc:Core c σ a.tmps w M ν){args:Array Operand}{ts:Array TypeId}{t t':TypeId}{x y:Operand}(ho:o.op= .call {callee:= .builtin .append,args,argTypes:=ts})(ha:args.toList=[x,y])(hts:ts.toList=[t,t']){K:fV α}{e:Ty}
  (ht:E.ty t=some (.slice e)) {id:Nat} (h:cond (Nat.beq t t') (qn σ.H id (.own e []) (Mv id e (σ.ρ x) (σ.ρ y) σ.H K)) none=some r) (hn:eW c σ a o w M ν K r next):o.wp P a w next Q:=by
 obtain⟨htt,h1⟩:=bN h
 clear h
 have htt:=eK htt
 subst htt
 obtain⟨hid,h⟩:=ky h1
 clear h1
 have arW:ts= #[t,t]:=by apply gb;simpa using hts
 subst arW
 obtain⟨e',hu,hle⟩:=(hE.ty t _ ht).slice
 obtain⟨i,hi,pT,hz,hby⟩:=hle.base
 have H9:=hc.ev x
 unfold Mv at h
 obtain⟨ys,rd,h,hS⟩:=CV hc.mem (hc.ev y) h
 have ahd:(ys=[]∧ ∃a' cp,a.eval y= .slice a' 0 cp)∨(ys≠[]∧ ∃a' cp news,a.eval y= .slice (some a') ys.length cp∧news.length=ys.length*e.size∧(∀j u,news[j]? =some u→w.cell? (a'.add j)=some u)∧pO w M e news ys∧ ∀u∈news,u.oneCell'=true):=by
  by_cases hy:ys=[]
  ·left
   obtain⟨a',cp,hv,_⟩:=hS
   exact⟨hy,a',cp,by rw[hv,hy];rfl⟩
  ·right
   obtain⟨b,off,cp,news,hv,hl,oO,kd,h1⟩:=hS.cells hy
   exact⟨hy,⟨b,off,none⟩,cp,news,hv,hl,λj u hj=>by rw[Addr.add_lit];exact oO j u hj,kd,h1⟩
 split at h
 ·
  rename_i hx
  rw[hx]at H9
  obtain⟨ad,H9⟩:=VR.emp.1 H9
  obtain⟨RU,h⟩:=bN h
  rw[FE]at RU
  have RU:=bl RU
  rcases ahd with⟨rfl,a',cp,vQ⟩|⟨hy,a',cp,news,vQ,hl,oO,kd,h1⟩
  ·refine aS (il ho ha (by rw[H9,vQ];exact xc hu hi ad 0 0 (aI _) a' cp)) (hn _ _ _ _ _ _ _ h (Tr.nothing hc.mem hid e ad) ?_)
   simp only[VR]
   exact⟨by show bc _ id _ id≠none;rw[ar];simp,by simp[updν]⟩
  ·have D7:0<ys.length:=oK.2 hy
   obtain⟨v,w',M',ν',cU,fG,hv⟩:=FY (P:=P) (ty:=o.type) hc.mem hid hu hle (xs:=[]) (ys:=ys) (olds:=[]) (news:=news) (base:=ad) (cap:=0) (cp:=cp) (a':=a') (λ_=>⟨rfl,rfl⟩) (by simp) (λi hi=>absurd hi (by simp)) (λ_ _ j u hj=>by simp at hj)
    hl kd oO (by simpa using D7) (by simpa using RU)
   refine aS (il ho ha (by rw[H9,vQ];exact cU)) (hn _ _ _ _ _ _ _ h fG ?_)
   simp only[VR]
   exact⟨by show bc _ id _ id≠none;rw[ar];simp,hv.symm⟩
 ·
  rename_i j hx
  rw[hx]at H9
  simp only[VR]at H9
  obtain⟨_,H9⟩:=H9
  split at h
  ·rename_i e1 l hj
   obtain⟨e2,h⟩:=bh h
   cases e2
   obtain⟨RU,h⟩:=bN h
   rw[FE]at RU
   have RU:l.length+ys.length<Al:=bl RU
   have ij:id≠j:=λe=>by rw[e,hj]at hid;cases hid
   have pR:bc σ.H j (some .gone) id=none:=by rw[av _ _ ij];exact hid
   have Kx:=Tr.gone hc.mem j
   have jY:=hc.mem.gT j _ hj
   simp only[ER]at jY
   rcases jY with⟨rfl,ad,hjv⟩|⟨b,cs,te,cap,hjv,hg,hM,P5,hl,CT,hs,hr⟩
   ·rw[hjv]at H9
    rcases ahd with⟨rfl,a',cp,vQ⟩|⟨hy,a',cp,news,vQ,hl,oO,kd,h1⟩
    ·refine aS (il ho ha (by rw[H9,vQ];exact xc hu hi ad 0 0 (aI _) a' cp)) (hn _ _ _ _ _ _ _ h (Kx.trans (Tr.nothing Kx.mem pR e ad)) ?_)
     simp only[VR]
     exact⟨by show bc _ id _ id≠none;rw[ar];simp,by simp[updν]⟩
    ·have D7:0<ys.length:=oK.2 hy
     obtain⟨v,w',M',ν',cU,fG,hv⟩:=FY (P:=P) (ty:=o.type) Kx.mem pR hu hle (xs:=[]) (ys:=ys) (olds:=[]) (news:=news) (base:=ad) (cap:=0) (cp:=cp) (a':=a') (λ_=>⟨rfl,rfl⟩) (by simp) (λi hi=>absurd hi (by simp)) (λ_ _ j u hj=>by simp at hj)
      hl kd oO (by simpa using D7) (by simpa using RU)
     refine aS (il ho ha (by rw[H9,vQ];exact cU)) (hn _ _ _ _ _ _ _ h (Kx.trans fG) ?_)
     simp only[VR]
     exact⟨by show bc _ id _ id≠none;rw[ar];simp,hv.symm⟩
   ·rw[hjv]at H9
    have D2:cs.toList.length=cap*e.size:=by rw[ba,hs]
    have Ky:l.length*e.size≤cap*e.size:=jh _ hl
    rcases ahd with⟨rfl,a',cp,vQ⟩|⟨hy,a',cp,news,vQ,Y8,oO,kd,h1⟩
    ·refine aS (il ho ha (by rw[H9,vQ];exact xc hu hi _ _ cap hl a' cp)) (hn _ _ _ _ _ M (updν ν id (ν j)) h ?_ ?_)
     ·refine Tr.rename hc.mem hj hid (.inr rfl) ?_
      rw[cN]
      exact hc.mem.gT j _ hj
     ·simp only[VR]
      exact⟨by show bc _ id _ id≠none;rw[ar];simp,by simp[updν,hjv]⟩
    ·by_cases AG:l.length+ys.length≤cap
     ·have hmul:(l.length+ys.length)*e.size≤cap*e.size:=jh _ AG
      rw[dR]at hmul
      have cU:=MQ (P:=P) (ty:=o.type) hu hi (w:=w) (b:=b) (n:=l.length) (cap:=cap) (m:=ys.length) (cp:=cp) (a':=a') (news:=news) (cs:=cs) hg (by rw[hs,pT]) (by rw[Y8,pT]) oO h1 AG
      rw[pT]at cU
      have Zw:dI cs.toList (l.length*e.size) news=(cs.toList.take (l.length*e.size)++news)++cs.toList.drop (l.length*e.size+news.length):=rfl
      have hold:pO w M e (cs.toList.take (l.length*e.size)) l:=pO.take hr (aI _)
      have htl:(cs.toList.take (l.length*e.size)).length=l.length*e.size:=by rw[bE];omega
      have afB:pO w M e (dI cs.toList (l.length*e.size) news) (l++ys):=by
       rw[Zw]
       refine pO.more (hold.append htl kd) ?_
       rw[aX,aX,htl,Y8,dR];exact aI _
      have MR:(dI cs.toList (l.length*e.size) news).length=cap*e.size:=by rw[dv ω];exact D2
      have ZJ:Tr c σ.H w M ν (bc σ.H j (some (.own e l))) (w.setRow b (dI cs.toList (l.length*e.size) news).toArray) M ν:=by
       refine Tr.write (e':= .own e l) hc.mem hj trivial trivial (.refl _) (by rw[hjv];simp[dQ];omega) hg λI5 hk w8=> ?_
       simp only[ER]
       refine .inr ⟨b,_,te,cap,hjv,setRow_heap w b cs _ te _ hg,w8,P5,hl,CT,by rw[iI];exact MR,λk rz=> ?_⟩
       have:=(afB k (by rw[aX];omega)).bG hk
       rw[zJ rz]at this
       exact this
      rw[BO hj]at ZJ
      have w7:Tr c σ.H (w.setRow b (dI cs.toList (l.length*e.size) news).toArray) M ν (bc (bc σ.H j (some .gone)) id (some (.own e (l++ys)))) (w.setRow b (dI cs.toList (l.length*e.size) news).toArray) M (updν ν id (.slice (some ⟨b,0,none⟩) (l++ys).length cap)):=by
       refine Tr.rename ZJ.mem hj hid (.inr (by rw[hjv];simp[dQ])) ?_
       simp only[ER]
       refine .inr ⟨b,_,te,cap,rfl,setRow_heap w b cs _ te _ hg,hM,P5,by rw[aX];exact AG,CT,by rw[iI];exact MR,(afB.bG ZJ.bG)⟩
      refine aS (il ho ha (by rw[H9,vQ];exact cU)) (hn _ _ _ _ _ _ _ h (ZJ.trans w7) ?_)
      simp only[VR]
      exact⟨by show bc _ id _ id≠none;rw[ar];simp,by simp[updν]⟩
     ·obtain⟨v,w',M',ν',cU,fG,hv⟩:=FY (P:=P) (ty:=o.type) Kx.mem pR hu hle (xs:=l) (ys:=ys) (olds:=cs.toList.take (l.length*e.size)) (news:=news) (base:=some ⟨b,0,none⟩) (cap:=cap) (cp:=cp) (a':=a') (λh=>by cases h)
       (by rw[bE];omega) (pO.take hr (aI _)) (λb' dj k u hk=>by
        cases dj
        rw[Addr.add_lit,cell_of hg]
        rw[mf]at hk
        split at hk
        ·rw[←fR];simpa using hk
        ·cases hk)
       Y8 kd oO ω RU
      refine aS (il ho ha (by rw[H9,vQ];exact cU)) (hn _ _ _ _ _ _ _ h (Kx.trans fG) ?_)
      simp only[VR]
      exact⟨by show bc _ id _ id≠none;rw[ar];simp,hv.symm⟩
  ·cases h
 ·cases h
theorem pO.over{e:Ty}{cs zs:List Value}{l1 l2:List e.den}{n:Nat}(h1:pO w M e cs l1)(h2:pO w M e zs l2)(hn:n≤l1.length)(hc:l1.length*e.size≤cs.length)(hz:zs.length=l2.length*e.size)(hs:n*e.size+zs.length≤cs.length):
  pO w M e (dI cs (n*e.size) zs) (List.take n l1++l2):=by
 intro i hi
 rw[aX,bE,fT hn]at hi
 by_cases dU:i<n
 ·have:=dJ (s:=e.size) dU
  rw[EE (.inl this) hs,zJ (by rw[bE];omega),zX]
  exact h1 i ω
 ·have h3:=h2 (i-n) ω
  have RV:i-n<l2.length:=ω
  have h4:=dJ (s:=e.size) RV
  have h5:i*e.size=n*e.size+(i-n)*e.size:=by rw[←dR];congr 1;omega
  have h6:((dI cs (n*e.size) zs).drop (i*e.size)).take e.size=(zs.drop ((i-n)*e.size)).take e.size:=by
   unfold dI
   have hl:(cs.take (n*e.size)).length=n*e.size:=by rw[bE];omega
   rw[h5,bU,←ji,lH hl,wx ω,wv (by rw[dy];omega)]
  rw[h6,E9 (by rw[bE];omega)]
  simp only[bE,fT hn]
  exact h3
theorem AH{args:Array Operand}{t:TypeId}{x:Operand}{v:Value}{w':World}(ho:o.op= .call {callee:= .builtin .clear,args,argTypes:= #[t]})(ha:args.toList=[x])
  (h:(Builtin.clear_ #[t] o.type #[a.eval x]).run P w= .ok v w'):(execOp a.eval o).run P w= .ok (.value v) w':=by
 obtain⟨cs,hr⟩:=ns (P:=P) (ρ:=a.eval) ho (w:=w)
 rw[hr]
 have:args.map a.eval= #[a.eval x]:=by apply gb;simp[ha]
 rw[this]
 simp[builtin,h]
theorem V2(hE:EnvTy P E)(hc:Core c σ a.tmps w M ν){args:Array Operand}{ts:Array TypeId}{t:TypeId}{x:Operand}(ho:o.op= .call {callee:= .builtin .clear,args,argTypes:=ts})(ha:args.toList=[x])(hts:ts.toList=[t]){K:fV α}{e:Ty}
  (ht:E.ty t=some (.slice e)) (h:y4 e (σ.ρ x) σ.H K=some r) (hn:eW c σ a o w M ν K r next):o.wp P a w next Q:=by
 have hts:ts= #[t]:=by apply gb;simp[hts]
 subst hts
 have hv:=hc.ev x
 unfold y4 at h
 split at h
 ·rename_i id e1 lo hx
  obtain⟨e2,h0⟩:=dt h
  clear h
  subst e2
  rw[hx]at hv
  simp only[VR]at hv
  obtain⟨azg,ad,n,cap,Y7,hv⟩:=hv
  split at h0
  ·rename_i e3 l hid
   obtain⟨e4,h⟩:=bh h0
   clear h0
   cases e4
   obtain⟨e',hu,hle⟩:=(hE.ty t _ ht).slice
   obtain⟨i,hi,hs,hz,_⟩:=hle.base
   have jY:=hc.mem.gT id _ hid
   simp only[ER]at jY
   rcases lJ lo l.length with dU|Vp
   ·rcases jY with⟨rfl,_⟩|⟨b,cs,te,nv,hb,hg,hM,P5,hl,CT,pT,hr⟩
    ·simp at dU
    ·rw[Y7]at hb
     simp only[Value.slice.injEq]at hb
     obtain⟨rfl,rfl,rfl⟩:=hb
     rw[ah ω]at hv
     have hzs:(bD e1 e1.bS).cells.size=e1.size:=by rw[←ba,eX,lM]
     have hzc:Builtin.zeroCells (bD e1 e1.bS).cells (l.length-lo)=madeCells (bD e1 e1.bS).cells ((l.length-lo)*e1.size):=by
      unfold Builtin.zeroCells madeCells;rw[hzs]
     have Y9:(madeCells (bD e1 e1.bS).cells ((l.length-lo)*e1.size)).toList.length=(l.length-lo)*e1.size:=by rw[ba,size_madeCells]
     have BP: ∀u∈(madeCells (bD e1 e1.bS).cells ((l.length-lo)*e1.size)).toList,u.oneCell'=true:=by
      intro u hu
      have hm:u∈(bD e1 e1.bS).cells.toList:=by
       simp only[madeCells,Array.toList_map,cQ]at hu
       obtain⟨j,hj,rfl⟩:=hu
       rw[Array.mem_toList_iff,Array.mem_range]at hj
       have h0:0<e1.size:=by
        rcases Nat.eq_zero_or_pos e1.size with h0|h0
        ·rw[h0]at hj;simp at hj
        ·exact h0
       have Ax:j%(bD e1 e1.bS).cells.size<(bD e1 e1.bS).cells.size:=Nat.mod_lt _ ω
       rw[getElem!_pos (bD e1 e1.bS).cells _ Ax]
       exact Array.getElem_mem_toList Ax
      rw[eX]at hm
      exact(Rd.zero w M e1).kS u hm
     have FZ:lo*e1.size+(l.length-lo)*e1.size≤cs.size:=by
      rw[pT,←dR]
      exact jh _ ω
     have CY:=run_storeCells_at (P:=P) b (lo*e1.size) te (madeCells (bD e1 e1.bS).cells ((l.length-lo)*e1.size)).toList 0 cs w hg (by rw[Y9];omega) BP
     simp only[kf]at CY
     obtain⟨m,hm⟩: ∃m,l.length-lo=m+1:=⟨l.length-lo-1,ω⟩
     have cU:(Builtin.clear_ #[t] o.type #[a.eval x]).run P w= .ok (.tuple #[]) (w.setRow b (dI cs.toList (lo*e1.size) (madeCells (bD e1 e1.bS).cells ((l.length-lo)*e1.size)).toList).toArray):=by
      rw[hv]
      rw[hm]at CY hzc ⊢
      simp[Builtin.clear_,run_underlying hu,zeroValue,typeInfo,hi,hz,Addr.add_lit,hzc,CY,dI]
     have fG:=Tr.write (e':= .own e1 (List.take lo l++List.replicate (ℓ l-lo) e1.zero)) (new:=(dI cs.toList (lo*e1.size) (madeCells (bD e1 e1.bS).cells ((l.length-lo)*e1.size)).toList).toArray) hc.mem hid trivial trivial ⟨rfl,by simp;omega⟩ (by rw[Y7];simp[dQ];omega) hg (λI5 hk w8=>by
      simp only[ER]
      refine .inr ⟨b,_,te,cap,?_,setRow_heap w b cs _ te _ hg,w8,P5,by simp;omega,CT,?_,?_⟩
      ·rw[Y7];simp;omega
      ·rw[iI,dv (by rw[Y9,ba];exact FZ),ba,pT]
      ·have h1:pO w M e1 cs.toList l:=hr
       have h2:=pO.made w M e1 (n:=(l.length-lo)*e1.size) (l:=l.length-lo) (aI _)
       have h3:=pO.over h1 h2 (n:=lo) ω (ca (jh _ hl) (Nat.le_of_eq (by rw[ba,pT]))) (by rw[Y9,bP]) (by rw[Y9,ba];exact FZ)
       exact h3.bG hk)
     exact aS (AH ho ha cU) (hn _ _ _ _ _ _ _ h fG (by simp[VR]))
   ·
    have HZ:List.take lo l++List.replicate (ℓ l-lo) e1.zero=l:=by
     rw[gh Vp,show l.length-lo=0 from by omega];simp
    have hn0:n=l.length:=by
     obtain⟨ad',nv,hh⟩:=ER.FW (hc.mem.gT id _ hid)
     rw[Y7]at hh;simp only[Value.slice.injEq]at hh;exact hh.2.1
    have cU:(Builtin.clear_ #[t] o.type #[a.eval x]).run P w= .ok (.tuple #[]) w:=by
     rw[hv,show n-lo=0 from by omega]
     cases(if cap=lo then ad else ad.map (·.add (lo*e1.size)))<;>simp[Builtin.clear_,run_underlying hu]
    have hH:bc σ.H id (some (.own e1 l))=σ.H:=by
     funext j
     by_cases hj:j=id
     ·subst hj;rw[ar,hid]
     ·rw[av _ _ hj]
    refine aS (AH ho ha cU) (hn _ _ _ _ _ M ν h ?_ (by simp[VR]))
    show Tr c σ.H w M ν (bc σ.H id (some (.own e1 (List.take lo l++List.replicate (ℓ l-lo) e1.zero)))) w M ν
    rw[HZ,hH]
    exact .refl hc.mem
  ·cases h0
 ·cases h
end VM
end
