/- A part of the proof of LotAll of layer 23: a machine that reads a function of the program as an equation between values. -/
import Derived.Test.YthnjnpjmbabcaaaGreatVm2
import Derived.Great.FillDense
set_option linter.all false
open List renaming length→ℓ
section
namespace VM
open Go
variable{P:Program}{E:Env}{o:Oper}{a:Act}{w:World}{M:Nat→Prop}{ν:Nat→Value}{σ:St}{c:Ctx}{α:Type}{r:α}{next:Act→World→Prop}{Q:Exit→Act→World→Prop}
theorem Gf{b:BinOp}{k k':IntKind}{x y:Int}{t:TypeId}{K:aF→Option α}(h:KU b k x y K=some r):
  ∃z,K (.val (.int k) z)=some r∧(binOp b t (.int k x) (.int k' y)).run P w= .ok (.int k z) w:=by
 unfold KU at h
 split at h
 ·obtain⟨h0,h⟩:=g5 h
  rw[nA]at h0
  have h0: ¬y<0:=by simpa using h0
  refine⟨_,h,?_⟩
  rw[vj,HQ]
  simp[binOp,Op.shift,h0]
 ·obtain⟨h0,h⟩:=g5 h
  rw[nA]at h0
  have h0: ¬y<0:=by simpa using h0
  refine⟨_,h,?_⟩
  rw[D2]
  simp[binOp,Op.shift,h0]
 ·cases h
theorem Ah{b:BinOp}{k:IntKind}{x y:Int}{t:TypeId}{K:aF→Option α}(h:nD b k x y K=some r):
  ∃v u,K v=some r∧(binOp b t (.int k x) (.int k y)).run P w= .ok u w∧ ∀H,VR w M H ν v u:=by
 unfold nD at h
 split at h
 ·exact⟨_,_,h,by simp[binOp,Op.intArith,vj],λH=> .mkInt _ _⟩
 ·exact⟨_,_,h,by simp[binOp,Op.intArith,vj],λH=> .mkInt _ _⟩
 ·exact⟨_,_,h,by simp[binOp,Op.intArith,vj],λH=> .mkInt _ _⟩
 ·obtain⟨h0,h⟩:=g5 h
  rw[eD]at h0
  have h0: ¬y=0:=by simpa using h0
  exact⟨_,_,h,by simp[binOp,Op.intDiv,vj,zY,h0],λH=> .mkInt _ _⟩
 ·obtain⟨h0,h⟩:=g5 h
  rw[eD]at h0
  have h0: ¬y=0:=by simpa using h0
  exact⟨_,_,h,by simp[binOp,Op.intDiv,HO,h0],λH=> .mkInt _ _⟩
 ·exact⟨_,_,h,by simp[binOp,Op.intBits,nB],λH=> .mkInt _ _⟩
 ·exact⟨_,_,h,by simp[binOp,Op.intBits,nB],λH=> .mkInt _ _⟩
 ·exact⟨_,_,h,by simp[binOp,Op.intBits,nB],λH=> .mkInt _ _⟩
 ·exact⟨_,_,h,by simp[binOp,Op.intBits,nB],λH=> .mkInt _ _⟩
 ·exact⟨_,.bool (decide (x=y)),h,by simp[binOp,Op.intCmp];rfl,λH=>by rw[eD];exact .nJ _⟩
 ·exact⟨_,.bool (!decide (x=y)),h,by simp[binOp,Op.intCmp];rfl,λH=>by rw[eD];exact .nJ _⟩
 ·exact⟨_,_,h,by simp[binOp,Op.intCmp,nA],λH=> .nJ _⟩
 ·exact⟨_,_,h,by simp[binOp,Op.intCmp,kV],λH=> .nJ _⟩
 ·exact⟨_,_,h,by simp[binOp,Op.intCmp,nA],λH=> .nJ _⟩
 ·exact⟨_,_,h,by simp[binOp,Op.intCmp,kV],λH=> .nJ _⟩
 ·cases h
theorem Gg{t:Option Ty}{op:BinOp}{τ:Ty}{x:τ.den}{υ:Ty}{y:υ.den}{K:aF→Option α}(h:wV t op τ x υ y K=some r):
  (∃(k k':IntKind) (m n:Int),aF.val τ x= .val (.int k) m∧aF.val υ y= .val (.int k') n∧(cond (KV op) (KU op k m n K) (if k=k' then nD op k m n K else none))=some r)∨
  (∃z:τ.den,aF.val υ y= .val τ z∧t=some τ∧τ.comparable=true∧((op= .eql∧K (.val .bool (mg τ x z))=some r)∨(op= .neq∧K (.val .bool (!mg τ x z))=some r))):=by
 unfold wV at h
 split at h
 ·exact .inl ⟨_,_,_,_,rfl,rfl,h⟩
 ·right
  split at h
  ·cases h
  ·obtain⟨e,h1⟩:=bU h
   clear h
   subst e
   obtain⟨hc,h⟩:=aP h1
   clear h1
   split at h
   ·obtain⟨e,h1⟩:=aE h
    subst e
    exact⟨_,rfl,rfl,hc,.inl ⟨rfl,h1⟩⟩
   ·obtain⟨e,h1⟩:=aE h
    subst e
    exact⟨_,rfl,rfl,hc,.inr ⟨rfl,h1⟩⟩
   ·cases h
theorem uu{t:TypeId}(hu:P.underlying t=some .bool)(x y:Bool)(w:World):(Op.equal t (.bool x) (.bool y)).run P w= .ok (x==y) w:=by
 unfold Op.equal
 obtain⟨n,hn⟩: ∃n,Op.maxDepth=n+1:=⟨9999,rfl⟩
 rw[hn]
 simp[Op.equalIn,run_underlying hu]
theorem run_eql_bool{t:TypeId}(hu:P.underlying t=some .bool)(x y:Bool):(binOp .eql t (.bool x) (.bool y)).run P w= .ok (.bool (x==y)) w:=by
 simp[binOp,uu hu]
theorem run_neq_bool{t:TypeId}(hu:P.underlying t=some .bool)(x y:Bool):(binOp .neq t (.bool x) (.bool y)).run P w= .ok (.bool (!(x==y))) w:=by
 simp[binOp,uu hu]
theorem S7(x y:ByteArray):(x.toList==y.toList)=decide (x.toList=y.toList):=by
 rw[mW];simp
theorem BV{t:TypeId}(x y:ByteArray):(binOp .eql t (.string x) (.string y)).run P w= .ok (.bool (decide (x.toList=y.toList))) w:=by
 simp[binOp,Op.stringOp,S7]
theorem BW{t:TypeId}(x y:ByteArray):(binOp .neq t (.string x) (.string y)).run P w= .ok (.bool (!decide (x.toList=y.toList))) w:=by
 simp[binOp,Op.stringOp,S7]
theorem H9(hE:EnvTy P E)(hc:Core c σ a.tmps w M ν){b:BinOp}{t t':TypeId}{x y:Operand}(ho:o.op= .binOp b t x y t'){K:dp α}
  (h:BF (σ.ρ x) (fun τ x=>BF (σ.ρ y) fun υ y=>wV (E.ty t) b τ x υ y λv=>K v [] [])=some r) (hn:cW c σ a o w M ν K r next):o.wp P a w next Q:=by
 have hx:=hc.ev x
 have hy:=hc.ev y
 unfold BF at h
 split at h
 ·rename_i τ x' O3
  split at h
  ·rename_i υ y' hye
   rw[O3]at hx;rw[hye]at hy
   rcases Gg h with⟨k,k',m,n,e1,e2,h1⟩|⟨z,e2,ht,Xh,h1⟩
   ·rw[e1]at hx;rw[e2]at hy
    have hx:=hx.int
    have hy:=hy.int
    cases hs:KV b
    ·rw[hs]at h1
     replace h1:(if k=k' then nD b k m n (λv=>K v [] [])else none)=some r:=h1
     split at h1
     ·rename_i hk;subst hk
      obtain⟨v,u,hK,bG,hVR⟩:=Ah (P:=P) (w:=w) (M:=M) (ν:=ν) (t:=t) h1
      exact av (ky ho (by rw[hx,hy];exact jW w) (by rw[hx,hy];exact bG)) (hn _ [] [] _ _ _ _ hK (.refl hc.mem) (hVR _))
     ·cases h1
    ·rw[hs]at h1
     replace h1:KU b k m n (λv=>K v [] [])=some r:=h1
     obtain⟨z,hK,bG⟩:=Gf (P:=P) (w:=w) (k':=k') (t:=t) h1
     exact av (ky ho (by rw[hx,hy];exact jW w) (by rw[hx,hy];exact bG)) (hn _ [] [] _ _ _ _ hK (.refl hc.mem) (.mkInt _ _))
   ·rw[e2]at hy
    have key:(eqGuard b t x y (a.eval x) (a.eval y)).run P w= .ok () w∧(binOp .eql t (a.eval x) (a.eval y)).run P w= .ok (.bool (mg τ x' z)) w∧(binOp .neq t (a.eval x) (a.eval y)).run P w= .ok (.bool (!mg τ x' z)) w:=by
     by_cases wZ:τ.isAgg=true
     ·simp only[VR]at hx hy
      exact hE.eq t τ ht Xh wZ w M _ _ _ _ b x y hx hy
     ·have hl:=hE.ty t τ ht
      cases τ with
      |int k=>
       rw[hx.int,hy.int]
       refine⟨jW w,?_,?_⟩
       ·simp[binOp,Op.intCmp,mg,eD];rfl
       ·simp[binOp,Op.intCmp,mg,eD];rfl
      |bool=>rw[hx.bool,hy.bool];exact⟨tu w,run_eql_bool hl.bool _ _,run_neq_bool hl.bool _ _⟩
      |str=>rw[hx.str,hy.str];exact⟨vn w,by rw[BV];simp[mg,wU],by rw[BW];simp[mg,wU]⟩
      |slice e=>simp[Ty.comparable]at Xh
      |unit=>simp[Ty.isAgg]at wZ
      |pair _ _=>simp[Ty.isAgg]at wZ
      |arr _ _=>simp[Ty.isAgg]at wZ
    obtain⟨hg,h2,h3⟩:=key
    rcases h1 with⟨rfl,hK⟩|⟨rfl,hK⟩
    ·exact av (ky ho hg h2) (hn _ [] [] _ _ _ _ hK (.refl hc.mem) (.nJ _))
    ·exact av (ky ho hg h3) (hn _ [] [] _ _ _ _ hK (.refl hc.mem) (.nJ _))
  ·cases h
 ·cases h
theorem K6(hc:Core c σ a.tmps w M ν){u:UnOp}{t:TypeId}{x:Operand}(ho:o.op= .unOp u t x){K:dp α}
  (h:FZ u (σ.ρ x) (λv=>K v [] [])=some r) (hn:cW c σ a o w M ν K r next):o.wp P a w next Q:=by
 have hx:=hc.ev x
 unfold FZ at h
 split at h
 ·rename_i k n O3
  rw[O3]at hx
  refine av (pt ho (v:= .int k (k.wrap (0-n))) ?_) (hn _ [] [] _ _ _ _ h (.refl hc.mem) (by rw[vj];exact .mkInt _ _))
  rw[hx.int];simp[Op.unary,Op.intArith]
 ·rename_i k n O3
  rw[O3]at hx
  refine av (pt ho (v:= .int k (hZ .xor k (if k.signed then-1 else k.max) n)) ?_) (hn _ [] [] _ _ _ _ h (.refl hc.mem) (.mkInt _ _))
  rw[hx.int,nB];simp[Op.unary,Op.intBits]
 ·rename_i b O3
  rw[O3]at hx
  refine av (pt ho (v:= .bool (!b)) ?_) (hn _ [] [] _ _ _ _ h (.refl hc.mem) (.nJ _))
  rw[hx.bool];simp[Op.unary]
 ·cases h
theorem gV{args:Array Operand}{ts:Array TypeId}{t:TypeId}{x:Operand}{n:Nat}(ho:o.op= .call {callee:= .builtin .len,args,argTypes:=ts})(ha:args.toList=[x])(_ht:ts.toList.head?=some t)
  (hl: ∀ty,(Builtin.len_ ts ty #[a.eval x]).run P w= .ok (goInt n) w):(execOp a.eval o).run P w= .ok (.value (.int .i64 n)) w:=by
 obtain⟨cs,hr⟩:=iw (P:=P) (ρ:=a.eval) ho (w:=w)
 rw[hr]
 have:args.map a.eval= #[a.eval x]:=by apply eb;simp[ha]
 rw[this]
 simp[builtin,hl,goInt]
theorem K7{ts:Array TypeId}{t ty:TypeId}(ht:ts[0]? =some t)(hu:P.underlying t=some .string)(s:ByteArray):(Builtin.len_ ts ty #[.string s]).run P w= .ok (goInt s.size) w:=by
 simp[Builtin.len_,ht,run_underlying hu]
theorem K9{ts:Array TypeId}{t ty e:TypeId}{n:Nat}(ht:ts[0]? =some t)(hu:P.underlying t=some (.array n e))(v:Value):(Builtin.len_ ts ty #[v]).run P w= .ok (goInt n) w:=by
 simp[Builtin.len_,ht,run_underlying hu]
theorem ng{ts:Array TypeId}{t ty e:TypeId}(ht:ts[0]? =some t)(hu:P.underlying t=some (.slice e))(ad:Option Addr)(n cp:Nat):(Builtin.len_ ts ty #[.slice ad n cp]).run P w= .ok (goInt n) w:=by
 simp[Builtin.len_,ht,run_underlying hu]
theorem ER.xe{e:Ty}{l:List e.den}{v:Value}(h:ER w M v (.own e l)): ∃ad cp,v= .slice ad l.length cp:=by
 simp only[ER]at h
 rcases h with⟨rfl,a,hv⟩|⟨b,cs,t,cap,hv,_⟩
 ·exact⟨a,0,hv⟩
 ·exact⟨_,cap,hv⟩
theorem ER.Ia{e:Ty}{l:List e.den}{v:Value}(h:ER w M v (.jk e l)): ∃ad cp,v= .slice ad l.length cp:=by
 simp only[ER]at h
 have h:=h.1
 simp only[Rd,cM,cT]at h
 obtain⟨a,cap,hv,_⟩:=h
 exact⟨a,cap,hv⟩
theorem O4(hE:EnvTy P E)(hc:Core c σ a.tmps w M ν){args:Array Operand}{ts:Array TypeId}{x:Operand}(ho:o.op= .call {callee:= .builtin .len,args,argTypes:=ts})(ha:args.toList=[x]){K:dp α}{τ:Ty}
  (ht:(ts.toList.head?).bind E.ty=some τ) (h:BG τ (σ.ρ x) σ.H K=some r) (hn:cW c σ a o w M ν K r next):o.wp P a w next Q:=by
 obtain⟨t,oP,Ge⟩:=lY.1 ht
 have Nz:ts[0]? =some t:=by rw[←oP,←dm,By]
 have hl:=hE.ty t τ Ge
 have hv:=hc.ev x
 unfold BG at h
 split at h
 ·rename_i e e' l hx
  obtain⟨_,hu,_⟩:=hl.slice
  rw[hx]at hv
  simp only[VR]at hv
  have hv:=V.slice.1 hv
  simp only[Rd,cM,cT]at hv
  obtain⟨ad,cap,hv,_⟩:=hv
  refine av (gV ho ha oP (n:=ℓ l) λty=>by rw[hv];exact ng Nz hu _ _ _) (hn _ [] [] _ _ _ _ h (.refl hc.mem) (.mkInt _ _))
 ·rename_i n e n' e' l hx
  obtain⟨_,hu,_⟩:=hl.arr
  refine av (gV ho ha oP (n:=n) λty=>K9 Nz hu _) (hn _ [] [] _ _ _ _ h (.refl hc.mem) (.mkInt _ _))
 ·rename_i s hx
  rw[hx]at hv
  refine av (gV ho ha oP (n:=ByteArray.size s) λty=>by rw[hv.str];exact K7 Nz hl.str _) (hn _ [] [] _ _ _ _ h (.refl hc.mem) (.mkInt _ _))
 ·rename_i e hx
  obtain⟨_,hu,_⟩:=hl.slice
  rw[hx]at hv
  simp only[VR]at hv
  obtain⟨ad,hv⟩:=hv
  refine av (gV ho ha oP (n:=0) λty=>by rw[hv];exact ng Nz hu _ _ _) (hn _ [] [] _ _ _ _ h (.refl hc.mem) (.mkInt _ _))
 ·rename_i e id hx
  obtain⟨_,hu,_⟩:=hl.slice
  rw[hx]at hv
  simp only[VR]at hv
  split at h
  ·rename_i e' l hid
   obtain⟨ad,cap,hh⟩:=(hc.mem.dH id _ hid).xe
   refine av (gV ho ha oP (n:=l.length) λty=>by rw[hv.2,hh];exact ng Nz hu _ _ _) (hn _ [id] [] _ _ _ _ h (.refl hc.mem) (.mkInt _ _))
  ·rename_i e' l hid
   obtain⟨ad,cap,hh⟩:=(hc.mem.dH id _ hid).Ia
   refine av (gV ho ha oP (n:=l.length) λty=>by rw[hv.2,hh];exact ng Nz hu _ _ _) (hn _ [id] [] _ _ _ _ h (.refl hc.mem) (.mkInt _ _))
  ·cases h
 ·cases h
theorem BX{H:Nat→Option az}(up:Bool): ∀(xs:List aF) (x:aF) (v:Value) (vs:List Value) (K:aF→Option α),VR w M H ν x v→eE w M H ν xs vs→KA up x xs K=some r→
  ∃x' v',K x'=some r∧(vs.foldlM (if up then Builtin.max2 else Builtin.min2) v).run P w= .ok v' w∧VR w M H ν x' v'
 |[],x,v,[],K,hx,_,h=>⟨x,v,h,by simp,hx⟩
 |[],_,_,_::_,_,_,hs,_=>by simp[eE]at hs
 |_::_,_,_,[],_,_,hs,_=>by simp[eE]at hs
 |y::xs,x,v,u::vs,K,hx,hs,h=>by
  simp only[eE]at hs
  obtain⟨hy,hs⟩:=hs
  unfold KA at h
  obtain⟨k,m,e1,h1⟩:=iy h
  obtain⟨k',n,e2,h2⟩:=iy h1
  clear h h1
  split at h2
  ·rename_i hk
   subst hk
   rw[e1]at hx;rw[e2]at hy
   have hx:=hx.int
   have hy:=hy.int
   obtain⟨x',v',hK,bG,hV⟩:=BX up xs _ (.int k (cond up (mx m n) (mn m n))) vs K (.mkInt _ _) hs h2
   refine⟨x',v',hK,?_,hV⟩
   rw[List.foldlM_cons,Sem.run_bind]
   have:((if up then Builtin.max2 else Builtin.min2) v u).run P w= .ok (.int k (cond up (mx m n) (mn m n))) w:=by
    rw[hx,hy]
    cases up
    ·simp[Builtin.min2,SP]
    ·simp[Builtin.max2,SO]
   rw[this]
   exact bG
  ·cases h2
theorem NA(hc:Core c σ a.tmps w M ν)(up:Bool){args:Array Operand}{ts:Array TypeId}{x:Operand}{xs:List Operand}(ho:o.op= .call {callee:= .builtin (if up then .max else .min),args,argTypes:=ts})(ha:args.toList=x::xs){K:dp α}
  (h:KA up (σ.ρ x) (xs.map σ.ρ) (λv=>K v [] [])=some r) (hn:cW c σ a o w M ν K r next):o.wp P a w next Q:=by
 obtain⟨x',v',hK,bG,hV⟩:=BX (P:=P) up (xs.map σ.ρ) (σ.ρ x) (a.eval x) (xs.map a.eval) _ (hc.ev x) (hc.Wk xs) h
 refine av ?_ (hn _ [] [] _ _ _ _ hK (.refl hc.mem) hV)
 obtain⟨cs,hr⟩:=iw (P:=P) (ρ:=a.eval) ho (w:=w)
 rw[hr]
 have hm:(args.map a.eval).toList=a.eval x::xs.map a.eval:=by simp[ha]
 cases up
 ·simp only[dJ,cU,builtin,Builtin.min_,hm,Sem.run_bind]at bG ⊢
  rw[bG];simp
 ·simp only[ed,builtin,Builtin.max_,hm,Sem.run_bind]at bG ⊢
  rw[bG];simp
theorem yS{ρ:Operand→Value}{t:TypeId}{x i:Operand}(ho:o.op= .index t x i){k:IntKind}{n:Int}{s:ByteArray}
  (hu:P.underlying t=some .string) (hx:ρ x= .string s) (hi:ρ i= .int k n) (h0:0≤n) (h1:n<(s.size:Int)):
  (execOp ρ o).run P w= .ok (.value (.int .u8 ((s.data.getD n.toNat 0).toNat:Int))) w:=by
 have c6:n.toNat<s.size:=ω
 have hs:s[n.toNat]? =some (s[n.toNat]'c6):=by simp[c6]
 have he:s[n.toNat]'c6=s.data.getD n.toNat 0:=by
  have qV:n.toNat<s.data.size:=c6
  rw[Array.getD,dif_pos qV];rfl
 simp[execOp,ho,hx,hi,Instr.index,asIntOf,run_underlying hu,h0,hs,he]
theorem Ib(hE:EnvTy P E)(hc:Core c σ a.tmps w M ν){t:TypeId}{x i:Operand}(ho:o.op= .index t x i){K:dp α}{τ:Ty}(ht:E.ty t=some τ)
  (h:ph τ (σ.ρ x) (σ.ρ i) (λv=>K v [] [])=some r) (hn:cW c σ a o w M ν K r next):o.wp P a w next Q:=by
 unfold ph at h
 obtain⟨k,n,hi,h2⟩:=iy h
 clear h
 have h:=h2
 clear h2
 have BT:=hc.ev i
 rw[hi]at BT
 have BT:=BT.int
 have hv:=hc.ev x
 have nL:=hE.ty t τ ht
 split at h
 ·rename_i len e υ l hx
  obtain⟨e',Bb,hle⟩:=nL.arr
  obtain⟨e1,h⟩:=aE h
  subst e1
  obtain⟨jl,h⟩:=aP h
  obtain⟨h0,h1⟩:=mv jl
  rw[hx]at hv
  simp only[VR]at hv
  obtain⟨cs,hu,hr⟩:=hv.agg rfl
  have mK:=hr.idx (i:=n.toNat) ω
  refine av (yR ho Bb hle hu BT h0 h1 mK) (hn _ [] [] _ _ _ _ h (.refl hc.mem) ?_)
  simp only[VR]
  exact V.aK mK
 ·rename_i s hx
  obtain⟨jl,h⟩:=aP h
  obtain⟨h0,h1⟩:=mv jl
  rw[hx]at hv
  refine av (yS ho nL.str hv.str BT h0 h1) (hn _ [] [] _ _ _ _ h (.refl hc.mem) (.mkInt _ _))
 ·cases h
theorem gx(τ:Ty):τ.aW.length=τ.size:=(Rd.zero default (λ_=>False) τ).length
theorem vq{z:Array Value}{n i s:Nat}(hz:z.size=s)(hi:i*s+s≤n):((madeCells z n).toList.drop (i*s)).take s=z.toList:=by
 apply oT
 intro j
 rw[gK]
 split
 ·rename_i hj
  rw[gL,dm,dm]
  simp only[madeCells,Array.getElem?_map]
  rw[Array.getElem?_range,ae ω]
  simp only[Option.map_some]
  have:(i*s+j)%z.size=j:=by rw[hz,sb,Nat.mul_add_mod,Nat.mod_eq_of_lt hj]
  rw[this,Bp ω,getElem!_pos z j ω]
 ·rename_i hj
  rw[dm,Bx ω]
theorem jT.made(w:World)(M:Nat→Prop)(e:Ty){n l:Nat}(h:l*e.size≤n):jT w M e (madeCells (aK e e.aW).cells n).toList (List.replicate l e.zero):=by
 intro i hi
 rw[a5]at hi
 have:=cc (s:=e.size) hi
 rw[vq (by rw[←aJ,cX,gx]) ω,cX,rI]
 exact Rd.zero w M e
theorem nh{ρ:Operand→Value}{t:TypeId}{x y:Operand}(ho:o.op= .makeSlice t x y){v:Value}{w':World}(h:(Instr.makeSlice t (ρ x) (ρ y)).run P w= .ok v w'):(execOp ρ o).run P w= .ok (.value v) w':=by
 simp[execOp,ho,h]
theorem Ai(hE:EnvTy P E)(hc:Core c σ a.tmps w M ν){t:TypeId}{x y:Operand}(ho:o.op= .makeSlice t x y){K:dp α}{e:Ty}(ht:E.ty t=some (.slice e)){id:Nat}
  (h:oM (σ.ρ x) (λ_ l=>oM (σ.ρ y) λ_ c=>cond (gh l c)
   (ku σ.H id (.own e []) (K (.ref id) [id] [(id,some (.own e (List.replicate l.toNat e.zero)))])) none)=some r) (hn:cW c σ a o w M ν K r next):o.wp P a w next Q:=by
 obtain⟨k,l,hx,h1⟩:=iy h
 obtain⟨k',n,hy,h2⟩:=iy h1
 clear h h1
 obtain⟨hk,h⟩:=aP h2
 obtain⟨hid,h⟩:=fC h
 rw[ti]at hk
 obtain⟨h0,h1,h3⟩:=bO hk
 simp only[sh]at h3
 obtain⟨e',hu,hle⟩:=(hE.ty t _ ht).slice
 obtain⟨i,hi,hs,hz,hb⟩:=hle.base
 have yI:=hc.ev x
 have oy:=hc.ev y
 rw[hx]at yI;rw[hy]at oy
 have xf:(i.bytes:Int)*n≤281474976710656:=by
  have h4:(i.bytes:Int)≤2048:=ω
  have:(i.bytes:Int)*n≤2048*n:=ny h4 ω
  omega
 have bG:=run_make (P:=P) w t e' i _ hu hi hz k k' l n h0 h1 xf ω
 have hlen:(List.replicate l.toNat e.zero).length=l.toNat:=a5
 have df:=Tr.row hc.mem hid e' (e:=e) (cs:=madeCells (aK e e.aW).cells (n.toNat*i.size)) (l:=List.replicate l.toNat e.zero) (cap:=n.toNat) (by rw[hlen];omega) (by simp[maxLen];omega)
  (by rw[size_madeCells,hs]) (jT.made w M e (rX ω ω))
 refine av (nh ho (by rw[yI.int,oy.int];exact bG)) (hn _ _ _ _ _ _ _ h df ?_)
 simp only[VR]
 exact⟨by show aC σ.H id _ id≠none;rw[ag];simp,by simp[updν]⟩
theorem Ic(off:Nat)(new cs:Array Value)(h:off+new.size≤cs.size):
  (new.zipIdx.foldl (λcs (x:Value×Nat)=>cs.setIfInBounds (off+x.2) x.1) cs)=(ca cs.toList off new.toList).toArray:=by
 have h1:new.zipIdx.foldl (λcs (x:Value×Nat)=>cs.setIfInBounds (off+x.2) x.1) cs=(new.toList.zipIdx 0).foldl (λcs (x:Value×Nat)=>cs.setIfInBounds (off+x.2) x.1) cs:=by
  rw[←Array.foldl_toList,Array.toList_zipIdx]
 rw[h1]
 obtain⟨hs,hk⟩:=Great.foldl_set off new.toList 0 cs
 apply Array.ext_getElem?
 intro k
 rw[hk k,←dm (xs:=cs)]
 have hl:new.toList.length=new.size:=aJ
 have hc:cs.toList.length=cs.size:=aJ
 unfold ca
 rw[oQ]
 by_cases h2:k<off
 ·rw[af ω,bs,kt (by rw[a7];omega),List.getElem?_take_of_lt h2]
 ·by_cases h3:k<off+new.size
  ·rw[ae ω,kt (by rw[aO,a7];omega),kq (by rw[a7];omega),a7]
   congr 1
   omega
  ·rw[af ω,kq (by rw[aO,a7];omega),aO,a7,gL]
   congr 1
   omega
theorem pZ{place:Nat→Option (Nat×Nat)}{cs:Array Value}{i:Nat}{v:Value}{rest:List (Nat×Value)}{off s:Nat}(hp:place i=some (off,s))(hs:v.cells.size=s)(h:off+s≤cs.size):
  Instr.fill place cs ((i,v)::rest)=Instr.fill place (ca cs.toList off v.cells.toList).toArray rest:=by
 have h1: ¬(decide (v.cells.size≠s)||decide (off+v.cells.size>cs.size))=true:=by simp[hs];omega
 conv=>lhs;unfold Instr.fill
 rw[hp]
 simp only
 rw[af h1]
 congr 1
 exact Ic off v.cells cs ω
theorem la(a:Act)(ps:Array (Nat×Operand)):(ps.map λ(i,x)=>(i,a.eval x)).toList=ps.toList.map λp=>(p.1,a.eval p.2):=by
 rw[Array.toList_map]
def PR(w:World)(M:Nat→Prop)(H:Nat→Option az)(ν:Nat→Value):List (Nat×aF)→List (Nat×Value)→Prop
 |[],[]=>True
 |p::ps,q::qs=>p.1=q.1∧VR w M H ν p.2 q.2∧PR w M H ν ps qs
 |_,_=>False
theorem PR.aV{w':World}{M':Nat→Prop}{H H':Nat→Option az}{ν':Nat→Value}(k:cm w M w' M')(g:eI H ν H' ν'): ∀{ps:List (Nat×aF)} {qs:List (Nat×Value)},PR w M H ν ps qs→PR w' M' H' ν' ps qs
 |[],[],_=>trivial
 |_::_,_::_,h=>⟨h.1,h.2.1.aV k g,PR.aV k g h.2.2⟩
 |[],_::_,h=>h.elim
 |_::_,[],h=>h.elim
theorem Core.pr(hc:Core c σ a.tmps w M ν): ∀ps:List (Nat×Operand),PR w M σ.H ν (ps.map λp=>(p.1,σ.ρ p.2)) (ps.map λp=>(p.1,a.eval p.2))
 |[]=>trivial
 |p::ps=>⟨rfl,hc.ev p.2,hc.pr ps⟩
theorem uv{e:Ty}{n:Nat}{H:Nat→Option az}: ∀(ps:List (Nat×aF)) (qs:List (Nat×Value)) (H1:Nat→Option az) (M:Nat→Prop) (l:List e.den) (cs:Array Value) (rd:List Nat) (ups:dR) (K:List e.den→List Nat→dR→Option α),
  Fz H H1→Mem c H1 w M ν→PR w M H1 ν ps qs→l.length=n→cs.size=n*e.size→jT w M e cs.toList l→H1=a8 H ups→pd e H n ps l rd ups K=some r→
  ∃l' pU eg M' cs',K l' pU eg=some r∧Tr c H1 w M ν (a8 H eg) w M' ν∧Fz H (a8 H eg)∧l'.length=n∧cs'.size=n*e.size∧jT w M' e cs'.toList l'∧
   Instr.fill (λi=>some (i*e.size,e.size)) cs qs=some cs':=by
 intro ps
 induction ps with
 |nil=>
  intro qs H1 M l cs rd ups K hz hm hp hl hs hr hH h
  cases qs with
  |cons _ _=>exact hp.elim
  |nil=>exact⟨l,rd,ups,M,cs,h,hH▸Tr.refl hm,hH▸hz,hl,hs,hr,rfl⟩
 |cons p ps ih=>
  intro qs H1 M l cs rd ups K hz hm hp hl hs hr hH h
  cases qs with
  |nil=>exact hp.elim
  |cons q qs=>
   obtain⟨h1,h2,h3⟩:=hp
   unfold pd at h
   obtain⟨hb,h⟩:=aP h
   have c6:p.1<n:=by simpa [sf]using hb
   obtain⟨y,Ie,tA,M1,h,df,hV,HA,_⟩:=fA hz hm h2 h
   have hlen:(q.2.cells).size=e.size:=by rw[←aJ];exact hV.cells.length
   have hmul:=cc (s:=e.size) c6
   have k9:=jT.set (hr.aV df.aV) (by rw[hl,aJ,hs];exact aH _) (i:=p.1) ω hV.cells
   obtain⟨l',pU,eg,M',cs',hK,D9,DS,yE,S8,mK,hf⟩:=ih qs (a8 H1 tA) M1 (l.set p.1 y) (ca cs.toList (p.1*e.size) q.2.cells.toList).toArray (Ie++rd) (ups++tA) K HA df.mem (h3.aV df.aV df.goes)
    (by rw[aT];exact hl) (by rw[dZ,bV (by rw[aJ,aJ];omega),aJ,hs]) k9 (by rw[cz,hH]) h
   refine⟨l',pU,eg,M',cs',hK,df.trans D9,DS,yE,S8,mK,?_⟩
   rw[pZ (off:=p.1*e.size) (s:=e.size) (by rw[h1]) hlen ω]
   exact hf
theorem Aj{τ:Ty}{H:Nat→Option az}{place:Nat→Option (Nat×Nat)}(Gh: ∀(x:τ.den) n υ y o,ui τ x n υ y o→place n=some (o,υ.size)):
  ∀(ps:List (Nat×aF)) (qs:List (Nat×Value)) (H1:Nat→Option az) (M:Nat→Prop) (x:τ.den) (cs:Array Value) (rd:List Nat) (ups:dR) (K:τ.den→List Nat→dR→Option α),
  Fz H H1→Mem c H1 w M ν→PR w M H1 ν ps qs→Rd w M τ cs.toList x→H1=a8 H ups→gj τ H ps x rd ups K=some r→
  ∃x' pU eg M' cs',K x' pU eg=some r∧Tr c H1 w M ν (a8 H eg) w M' ν∧Fz H (a8 H eg)∧Rd w M' τ cs'.toList x'∧Instr.fill place cs qs=some cs'∧
   ∀m υ,qm τ m=some υ→(ps.all λp=> !(Nat.beq p.1 m))=true→(cs'.toList.drop (de τ m)).take υ.size=(cs.toList.drop (de τ m)).take υ.size:=by
 intro ps
 induction ps with
 |nil=>
  intro qs H1 M x cs rd ups K hz hm hp hr hH h
  cases qs with
  |cons _ _=>exact hp.elim
  |nil=>exact⟨x,rd,ups,M,cs,h,hH▸Tr.refl hm,hH▸hz,hr,rfl,λ_ _ _ _=>rfl⟩
 |cons p ps ih=>
  intro qs H1 M x cs rd ups K hz hm hp hr hH h
  cases qs with
  |nil=>exact hp.elim
  |cons q qs=>
   obtain⟨h1,h2,h3⟩:=hp
   unfold gj at h
   obtain⟨υ,y0,of,hf,h⟩:=jB h
   obtain⟨y,Ie,tA,M1,h,df,hV,HA,_⟩:=fA hz hm h2 h
   obtain⟨υ',y',o',k',qt,eh,nf⟩:=fB h
   obtain⟨rfl,rfl⟩:=qt.eq
   obtain⟨rfl,rfl⟩:=hf.eq
   obtain⟨e1,rq⟩:=aE eh
   obtain⟨x',mu,_,fg⟩:=nf _ _ rq
   have hlen:(q.2.cells).size=(lN τ p.1).size:=by rw[←aJ];exact hV.cells.length
   have hb:=hf.bound
   have w9:=hr.length
   rw[aJ]at w9
   obtain⟨x2,pU,eg,M',cs',hK,D9,DS,mK,zr,Ig⟩:=ih qs (a8 H1 tA) M1 x' (ca cs.toList (de τ p.1) q.2.cells.toList).toArray (Ie++rd) (ups++tA) K HA df.mem (h3.aV df.aV df.goes)
    (fg w M1 _ _ (hr.aV df.aV) hV.cells) (by rw[cz,hH]) mu
   refine⟨x2,pU,eg,M',cs',hK,df.trans D9,DS,mK,?_,λm υ eh ia=> ?_⟩
   ·rw[pZ (off:=de τ p.1) (s:=(lN τ p.1).size) (by rw[←h1];exact Gh _ _ _ _ _ hf) hlen ω]
    exact zr
   ·rw[rZ,bg]at ia
    rw[Ig m υ eh ia.2]
    obtain⟨y2,o2,Xi⟩:=fv eh x
    obtain⟨e3,e4⟩:=Xi.eq
    subst e3 e4
    have eX:p.1≠m:=λe=>by have:=ia.1;rw[e,jw]at this;cases this
    have Nv:=hf.apart Xi eX
    have nI:=Xi.bound
    show((ca cs.toList (de τ p.1) q.2.cells.toList).drop _).take _=_
    rw[vQ (by rw[aJ];omega) (by rw[aJ,aJ];omega)]
theorem dk.places: ∀(τ:Ty) (fs:Array Field) (n off:Nat),dk P τ (.inr (fs,n,off))→
  ∃ps,(fs.toList.drop n).mapM (λf=>(P.info? f.type).map λi=>(f.offset,i.size))=some ps∧ ∀(x:τ.den) m υ y o,ui τ x m υ y o→ps[m]? =some (off+o,υ.size)
 | .unit,fs,n,off,h=>by
  simp only[dk]at h
  refine⟨[],?_,λx m υ y o hf=>by cases hf⟩
  rw[eT (by rw[aJ];omega)];rfl
 | .pair t b,fs,n,off,h=>by
  simp only[dk]at h
  obtain⟨f,hf,ho,ha,hb⟩:=h
  obtain⟨ps,yJ,zr⟩:=dk.places b fs (n+1) (off+t.size) hb
  obtain⟨i,hi,hs,_⟩:=(show fe P t f.type from ha).base
  have c6:n<fs.toList.length:=by rw[aJ];exact(fO.1 hf).1
  have hfe:fs.toList[n]=f:=by rw[rN];exact(fO.1 hf).2
  refine⟨(off,t.size)::ps,?_,λx m υ y o qt=> ?_⟩
  ·rw[jf c6,rY,yJ,hfe,hi]
   simp[ho,hs]
  ·cases qt with
   |here=>simp
   |there _ h'=>simp[zr _ _ _ _ _ h',ju]
 | .int _,_,_,_,h| .bool,_,_,_,h| .str,_,_,_,h| .slice _,_,_,_,h| .arr _ _,_,_,_,h=>by simp[dk]at h
theorem fe.places{τ:Ty}{t:TypeId}(h:fe P τ t)(ha:τ.isAgg=true)(hn: ∀n e,τ≠ .arr n e):
  ∃fs ps,P.underlying t=some (.struct fs)∧fs.toList.mapM (λf=>(P.info? f.type).map λi=>(f.offset,i.size))=some ps∧ ∀(x:τ.den) m υ y o,ui τ x m υ y o→ps[m]? =some (o,υ.size):=by
 cases τ with
 |unit=>
  simp only[fe,dk]at h
  obtain⟨_,fs,hu,hs⟩:=h
  refine⟨fs,[],hu,?_,λx m υ y o hf=>by cases hf⟩
  have:fs.toList=[]:=ij (by rw[aJ];exact hs)
  rw[this];rfl
 |pair t' b=>
  simp only[fe,dk]at h
  obtain⟨_,fs,f,hu,hf,ho,Xj,hb⟩:=h
  have hg:dk P (.pair t' b) (.inr (fs,0,0)):=by
   simp only[dk]
   exact⟨f,hf,ho,Xj,by simpa using hb⟩
  obtain⟨ps,yJ,zr⟩:=dk.places _ fs 0 0 hg
  exact⟨fs,ps,hu,yJ,λx m υ y o qt=>by simpa using zr x m υ y o qt⟩
 |arr n e=>exact absurd rfl (hn n e)
 |int _=>simp[Ty.isAgg]at ha
 |bool=>simp[Ty.isAgg]at ha
 |str=>simp[Ty.isAgg]at ha
 |slice _=>simp[Ty.isAgg]at ha
theorem nN{ρ:Operand→Value}{t:TypeId}{ps:Array (Nat×Operand)}(ho:o.op= .build t ps){v:Value}(h:(Instr.build t (ps.map λ(i,x)=>(i,ρ x))).run P w= .ok v w):(execOp ρ o).run P w= .ok (.value v) w:=by
 simp[execOp,ho,h]
theorem sB{ρ:Operand→Value}{t:TypeId}{n:Nat}{ps:Array (Nat×Operand)}(ho:o.op= .buildSlice t n ps){v:Value}{w':World}(h:(Instr.buildSlice t n (ps.map λ(i,x)=>(i,ρ x))).run P w= .ok v w'):(execOp ρ o).run P w= .ok (.value v) w':=by
 simp[execOp,ho,h]
theorem VR.E3{H:Nat→Option az}{τ:Ty}(ha:τ.isAgg=true){cs:Array Value}{x:τ.den}(h:Rd w M τ cs.toList x):VR w M H ν (.val τ x) (.agg cs):=by
 simp only[VR,V];rw[ae ha];exact⟨cs,rfl,h⟩
theorem Ak(hE:EnvTy P E)(hc:Core c σ a.tmps w M ν){t:TypeId}{ps:Array (Nat×Operand)}(ho:o.op= .build t ps){K:dp α}{n:Nat}{e:Ty}(ht:E.ty t=some (.arr n e))
  (h:pd e σ.H n (partsOf σ.ρ ps) (List.replicate n e.zero) [] [] (λl rd ups=>K (.val (.arr n e) l) rd ups)=some r) (hn:cW c σ a o w M ν K r next):o.wp P a w next Q:=by
 have hl:=hE.ty t _ ht
 obtain⟨e',hu,hle⟩:=hl.arr
 obtain⟨i,hi,hs,hz,_⟩:=hl.base
 obtain⟨ie,Sd,Se,_⟩:=hle.base
 have E4:=Rd.arr.1 (Rd.zero w M (.arr n e))
 obtain⟨l',pU,eg,M',cs',hK,df,DS,yE,S8,mK,hf⟩:=uv (partsOf σ.ρ ps) (ps.toList.map λ(p:Nat×Operand)=>(p.1,a.eval p.2)) σ.H M (List.replicate n e.zero) (Ty.aW (.arr n e)).toArray [] [] _ (.refl _) hc.mem (hc.pr ps.toList)
  (by rw[a5]) (by rw[dZ];exact E4.2.1) E4.2.2 rfl h
 refine av (nN ho (run_build w t _ cs' ?_)) (hn _ _ _ _ _ _ _ hK df (VR.E3 rfl (Rd.arr.2 ⟨yE,by rw[aJ];exact S8,mK⟩)))
 unfold Program.built
 rw[hi,hu]
 simp only[hz,Sd,Se,la]
 exact hf
theorem vr(hE:EnvTy P E)(hc:Core c σ a.tmps w M ν){t:TypeId}{ps:Array (Nat×Operand)}(ho:o.op= .build t ps){K:dp α}{τ:Ty}(ht:E.ty t=some τ)(Ih: ∀n e,τ≠ .arr n e)
  (h:cond τ.isAgg (gj τ σ.H (partsOf σ.ρ ps) τ.zero [] [] (λl rd ups=>K (KW E (partsOf σ.ρ ps) τ l) rd ups)) none=some r) (hn:cW c σ a o w M ν K r next):o.wp P a w next Q:=by
 obtain⟨wZ,h⟩:=aP h
 have hl:=hE.ty t _ ht
 obtain⟨fs,pl,hu,yJ,Gh⟩:=hl.places wZ Ih
 obtain⟨i,hi,hs,hz,_⟩:=hl.base
 obtain⟨l',pU,eg,M',cs',hK,df,DS,mK,hf,Ig⟩:=Aj (place:=(pl.toArray[·]?)) (λx n υ y o hf=>by simpa using Gh x n υ y o hf) (partsOf σ.ρ ps) (ps.toList.map λ(p:Nat×Operand)=>(p.1,a.eval p.2)) σ.H M τ.zero τ.aW.toArray [] [] _ (.refl _) hc.mem (hc.pr ps.toList)
  (Rd.zero w M τ) rfl h
 have K4:VR w M' (a8 σ.H eg) ν (KW E (partsOf σ.ρ ps) τ l') (.agg cs'):=by
  unfold KW
  split
  ·rename_i n e k5
   cases ia:(partsOf σ.ρ ps).all λp=> !(Nat.beq p.1 n)
   ·exact VR.E3 wZ mK
   ·have hq:=Ad k5
    show VR w M' (a8 σ.H eg) ν (.zZ τ l' n) (.agg cs')
    have hv:=VR.E3 (H:=a8 σ.H eg) (ν:=ν) wZ mK
    simp only[VR]at hv ⊢
    refine⟨hv,cs',none,rfl,?_⟩
    have BS:qm τ n=some (.slice e):=by
     unfold cQ at hq
     split at hq
     ·rename_i a ha
      rw[ha]
      have:=bO hq
      rw[this]
     ·cases hq
    have h2:=Ig n _ BS ia
    have h3:=tv hq
    simp only[bb,gr]at h3
    have h4:=gv (λl=>l[0]?) h2
    simp only[gK,gL,gr]at h4
    rw[ae (show 0<(Ty.slice e).size from Nat.one_pos),ae (show 0<(Ty.slice e).size from Nat.one_pos)]at h4
    rw[h4];exact h3
  ·exact VR.E3 wZ mK
 refine av (nN ho (run_build w t _ cs' ?_)) (hn _ _ _ _ _ _ _ hK df K4)
 unfold Program.built
 rw[hi,hu]
 have Sf:(aK τ τ.aW).cells=τ.aW.toArray:=by apply eb;rw[cX]
 simp only[hz,yJ,la,Sf]
 exact hf
theorem Ea{ps:List (Nat×aF)}{τ:Ty}{n k:Nat}(h:z2 E ps τ=some (n,k)):(∃e,cQ [.dS n] τ (.slice e)=true)∧(∀p∈ps,p.1=n→p.2= .ref k)∧ ∃p∈ps,p.1=n:=by
 unfold z2 at h
 split at h
 ·rename_i m e Ga k5
  split at h
  ·rename_i i j hf
   cases h
   refine⟨⟨e,Ad k5⟩,λp hp Bc=> ?_,?_⟩
   ·have:p∈ps.filter λp=>Nat.beq p.1 n:=oX.2 ⟨hp,by rw[Bc];exact jw n⟩
    rw[hf,dK]at this
    rw[this]
   ·have:(i,aF.ref k)∈ps.filter λp=>Nat.beq p.1 n:=by rw[hf];simp
    obtain⟨h1,h2⟩:=oX.1 this
    exact⟨_,h1,cJ h2⟩
  ·cases h
 ·cases h
theorem yT{τ:Ty}{H:Nat→Option az}{place:Nat→Option (Nat×Nat)}(Gh: ∀(x:τ.den) n υ y o,ui τ x n υ y o→place n=some (o,υ.size)){n k:Nat}{e:Ty}(hq:qm τ n=some (.slice e))(tq:(ν k).cells= #[ν k]):
  ∀(ps:List (Nat×aF)) (qs:List (Nat×Value)) (H1:Nat→Option az) (M:Nat→Prop) (x:τ.den) (cs real:Array Value) (u:Value) (rd:List Nat) (ups:dR) (K:τ.den→List Nat→dR→Option α),
  Fz H H1→Mem c H1 w M ν→PR w M H1 ν ps qs→(∀p∈ps,p.1=n→p.2= .ref k)→Rd w M τ cs.toList x→real.toList=ca cs.toList (de τ n) [u]→H1=a8 H ups→gj τ H (pj n ps) x rd ups K=some r→
  ∃x' pU eg M' u',∃(cs' sC:Array Value),K x' pU eg=some r∧Tr c H1 w M ν (a8 H eg) w M' ν∧Fz H (a8 H eg)∧Rd w M' τ cs'.toList x'∧Instr.fill place real qs=some sC∧sC.toList=ca cs'.toList (de τ n) [u']∧
   (u'=ν k∨(u'=u∧ ∀p∈ps,p.1≠n)):=by
 intro ps
 induction ps with
 |nil=>
  intro qs H1 M x cs real u rd ups K hz hm hp ia hr hu hH h
  cases qs with
  |cons _ _=>exact hp.elim
  |nil=>exact⟨x,rd,ups,M,u,cs,real,h,hH▸Tr.refl hm,hH▸hz,hr,rfl,hu,.inr ⟨rfl,λ_ h=>by simp at h⟩⟩
 |cons p ps ih=>
  intro qs H1 M x cs real u rd ups K hz hm hp ia hr hu hH h
  cases qs with
  |nil=>exact hp.elim
  |cons q qs=>
   obtain⟨h1,h2,h3⟩:=hp
   have NB: ∀p∈ps,p.1=n→p.2= .ref k:=λp hp=>ia p (aR _ hp)
   obtain⟨yn,on,O5⟩:=fv hq x
   have Sg:=O5.bound
   have Wl:=O5.eq.2
   subst Wl
   rw[show(Ty.slice e).size=1 from rfl]at Sg
   have w9:=hr.length
   rw[aJ]at w9
   have S9:real.size=cs.size:=by
    have h0:de τ n+[u].length≤cs.toList.length:=by rw[aJ];exact ea Sg (Nat.le_of_eq w9.symm)
    rw[←aJ,hu,bV h0,aJ]
   by_cases Bc:p.1=n
   ·
    have Xk:=ia p bl Bc
    have hb:Nat.beq p.1 n=true:=by rw[Bc];exact jw n
    have h:gj τ H ((p.1,aF.emp)::pj n ps) x rd ups K=some r:=by
     have e1:pj n (p::ps)=(p.1,aF.emp)::pj n ps:=by simp[pj,hb]
     rw[e1]at h;exact h
    unfold gj at h
    obtain⟨υ,y0,of,hf,h⟩:=jB h
    have hve:VR w M H1 ν .emp (.slice none 0 0):=by simp only[VR];exact⟨none,rfl⟩
    obtain⟨y,Ie,tA,M1,h,df,hV,HA,_⟩:=fA hz hm hve h
    obtain⟨υ',y',o',k',qt,eh,nf⟩:=fB h
    obtain⟨rfl,rfl⟩:=qt.eq
    obtain⟨rfl,rfl⟩:=hf.eq
    obtain⟨e1,rq⟩:=aE eh
    obtain⟨x',mu,_,fg⟩:=nf _ _ rq
    have kz:(lN τ p.1).size=1:=by
     have h5:=O5.eq.1
     rw[Bc,←h5];rfl
    rw[Xk]at h2
    simp only[VR]at h2
    have Gi:=fg w M1 _ _ (hr.aV df.aV) hV.cells
    have hcn:(Value.slice none 0 0).cells.toList=[.slice none 0 0]:=rfl
    rw[hcn]at Gi
    obtain⟨x2,pU,eg,M',u',cs',sC,hK,D9,DS,mK,zr,vT,O6⟩:=ih qs (a8 H1 tA) M1 x' (ca cs.toList (de τ p.1) [.slice none 0 0]).toArray (ca real.toList (de τ n) [ν k]).toArray (ν k) (Ie++rd) (ups++tA) K HA df.mem (h3.aV df.aV df.goes) NB
     Gi (by
      show ca real.toList (de τ n) [ν k]=ca (ca cs.toList (de τ p.1) [.slice none 0 0]) (de τ n) [ν k]
      rw[hu,Bc,nc (by rw[aJ];omega),nc (by rw[aJ];omega)]) (by rw[cz,hH]) mu
    refine⟨x2,pU,eg,M',u',cs',sC,hK,df.trans D9,DS,mK,?_,vT,.inl (O6.elim id λh=>h.1)⟩
    have Hy:place q.1=some (de τ n,1):=by rw[←h1,Bc];exact Gh _ _ _ _ _ O5
    rw[pZ (off:=de τ n) (s:=1) Hy (by rw[h2.2,tq];rfl) ω,h2.2,tq]
    exact zr
   ·have hb:Nat.beq p.1 n=false:=by
     cases hb:Nat.beq p.1 n
     ·rfl
     ·exact absurd (cJ hb) Bc
    have h:gj τ H (p::pj n ps) x rd ups K=some r:=by
     have e1:pj n (p::ps)=p::pj n ps:=by simp[pj,hb]
     rw[e1]at h;exact h
    unfold gj at h
    obtain⟨υ,y0,of,hf,h⟩:=jB h
    obtain⟨y,Ie,tA,M1,h,df,hV,HA,_⟩:=fA hz hm h2 h
    obtain⟨υ',y',o',k',qt,eh,nf⟩:=fB h
    obtain⟨rfl,rfl⟩:=qt.eq
    obtain⟨rfl,rfl⟩:=hf.eq
    obtain⟨e1,rq⟩:=aE eh
    obtain⟨x',mu,_,fg⟩:=nf _ _ rq
    have hlen:(q.2.cells).size=(lN τ p.1).size:=by rw[←aJ];exact hV.cells.length
    have hbf:=hf.bound
    have Nv:=hf.apart O5 Bc
    rw[show(Ty.slice e).size=1 from rfl]at Nv
    obtain⟨x2,pU,eg,M',u',cs',sC,hK,D9,DS,mK,zr,vT,O6⟩:=ih qs (a8 H1 tA) M1 x' (ca cs.toList (de τ p.1) q.2.cells.toList).toArray (ca real.toList (de τ p.1) q.2.cells.toList).toArray u (Ie++rd) (ups++tA) K HA df.mem (h3.aV df.aV df.goes) NB
     (fg w M1 _ _ (hr.aV df.aV) hV.cells) (by
      show ca real.toList (de τ p.1) q.2.cells.toList=ca (ca cs.toList (de τ p.1) q.2.cells.toList) (de τ n) [u]
      rw[hu]
      have Z9:[u].length=1:=rfl
      have hlq:q.2.cells.toList.length=(lN τ p.1).size:=by rw[aJ];exact hlen
      exact BP (a:=[u]) (b:=q.2.cells.toList) (by rw[Z9,hlq];omega) (by rw[Z9,aJ];omega) (by rw[hlq,aJ];omega)) (by rw[cz,hH]) mu
    refine⟨x2,pU,eg,M',u',cs',sC,hK,df.trans D9,DS,mK,?_,vT,O6.imp id λh=>⟨h.1,λp' yF=>(bu.1 yF).elim (λe=>e▸Bc) (h.2 p')⟩⟩
    rw[pZ (off:=de τ p.1) (s:=(lN τ p.1).size) (by rw[←h1];exact Gh _ _ _ _ _ hf) hlen ω]
    exact zr
theorem BY(hE:EnvTy P E)(hc:Core c σ a.tmps w M ν){t:TypeId}{ps:Array (Nat×Operand)}(ho:o.op= .build t ps){K:dp α}{τ:Ty}(ht:E.ty t=some τ)(Ih: ∀n e,τ≠ .arr n e){n k:Nat}(hs:z2 E (partsOf σ.ρ ps) τ=some (n,k))
  (h:(match σ.H k with
   |some (.own _ _)=>cond τ.isAgg (gj τ σ.H (pj n (partsOf σ.ρ ps)) τ.zero [] [] λx rd ups=>K (.yM τ x n k) (k::rd) ups) none
   |_=>none)=some r) (hn:cW c σ a o w M ν K r next):o.wp P a w next Q:=by
 obtain⟨⟨e,hq⟩,ia,p0,qx,Xl⟩:=Ea hs
 split at h
 ·rename_i e' l hk
  obtain⟨wZ,h⟩:=aP h
  have BS:qm τ n=some (.slice e):=by
   unfold cQ at hq
   split at hq
   ·rename_i a ha
    rw[ha]
    rw[show a= .slice e from bO hq]
   ·cases hq
  have tq:(ν k).cells= #[ν k]:=by
   have:=hc.mem.dH k _ hk
   simp only[ER]at this
   rcases this with⟨_,ad,hv⟩|⟨b,cs,t,cap,hv,_⟩<;>rw[hv]<;>rfl
  have hl:=hE.ty t _ ht
  obtain⟨fs,pl,hu,yJ,Gh⟩:=hl.places wZ Ih
  obtain⟨i,hi,kz,hz,_⟩:=hl.base
  have DV:τ.aW[de τ n]? =some (.slice none 0 0):=by simpa [bb]using tv hq
  obtain⟨x',pU,eg,M',u',cs',sC,hK,df,DS,mK,hf,vT,O6⟩:=yT (place:=(pl.toArray[·]?)) (λx n υ y o hf=>by simpa using Gh x n υ y o hf) BS tq (partsOf σ.ρ ps) (ps.toList.map λ(p:Nat×Operand)=>(p.1,a.eval p.2)) σ.H M τ.zero τ.aW.toArray τ.aW.toArray (.slice none 0 0) [] [] _ (.refl _) hc.mem (hc.pr ps.toList) ia
   (Rd.zero w M τ) (pn DV).symm rfl h
  have La:u'=ν k:=O6.elim id λh=>absurd Xl (h.2 p0 qx)
  subst La
  refine av (nN ho (run_build w t _ sC ?_)) (hn _ _ _ _ _ _ _ hK df ?_)
  ·unfold Program.built
   rw[hi,hu]
   have Sf:(aK τ τ.aW).cells=τ.aW.toArray:=by apply eb;rw[cX]
   simp only[hz,yJ,la,Sf]
   exact hf
  ·simp only[VR]
   refine⟨sC,cs'.toList,rfl,mK,vT,?_,kK hq⟩
   obtain⟨e1,sw,_⟩:=df.goes.dH k _ hk
   rw[sw];simp
 ·cases h
theorem yU(hE:EnvTy P E)(hc:Core c σ a.tmps w M ν){t:TypeId}{n:Nat}{ps:Array (Nat×Operand)}(ho:o.op= .buildSlice t n ps){K:dp α}{e:Ty}(ht:E.ty t=some (.slice e)){id:Nat}
  (h:cond (Nat.ble (n*(e.size+1)) 16777216) (ku σ.H id (.own e []) (pd e σ.H n (partsOf σ.ρ ps) (List.replicate n e.zero) [] [] λl rd ups=>K (.ref id) (id::rd) (ups++[(id,some (.own e l))]))) none=some r)
  (hn:cW c σ a o w M ν K r next):o.wp P a w next Q:=by
 obtain⟨hb,h⟩:=aP h
 obtain⟨hid,h⟩:=fC h
 have hb:=rM hb
 rw[Nat.mul_add,o8]at hb
 obtain⟨e',hu,hle⟩:=(hE.ty t _ ht).slice
 obtain⟨ie,Sd,Se,hz,_⟩:=hle.base
 obtain⟨l',pU,eg,M',cs',hK,df,DS,yE,S8,mK,hf⟩:=uv (partsOf σ.ρ ps) (ps.toList.map λ(p:Nat×Operand)=>(p.1,a.eval p.2)) σ.H M (List.replicate n e.zero) (madeCells (aK e e.aW).cells (n*e.size)) [] [] _ (.refl _) hc.mem (hc.pr ps.toList)
  (by rw[a5]) (size_madeCells _ _) (jT.made w M e (aH _)) rfl h
 have OT:a8 σ.H eg id=none:=DS.none hid
 have pv:=df.trans (Tr.row df.mem OT e' (e:=e) (cs:=cs') (l:=l') (cap:=n) ω (by simp[maxLen];omega) S8 mK)
 have bG:(Instr.buildSlice t n (ps.map λ(i,x)=>(i,a.eval x))).run P w= .ok (.slice (some ⟨w.heap.size,0,none⟩) n n) (w.alloc (.cells cs' e')):=by
  by_cases h0:n*e.size=0
  ·rw[h0]at hf
   have DW:madeCells (aK e e.aW).cells 0=(Array.range 0).map λi:Nat=>(#[]:Array Value)[i%0]! :=by simp[madeCells]
   rw[DW]at hf
   rw[←la]at hf
   simp[Instr.buildSlice,run_underlying hu,Go.sizeOf,typeInfo,Sd,Se,h0,newRow]at hf ⊢
   simp[hf]
  ·refine run_buildSlice w t e' n _ cs' ie _ hu Sd hz (by rw[Se];omega) (by rw[Se];exact h0) ?_
   rw[Se,la]
   exact hf
 refine av (sB ho bG) (hn _ _ _ _ _ (λb=>M' b∨b=w.heap.size) (updν ν id (.slice (some ⟨w.heap.size,0,none⟩) l'.length n)) hK ?_ ?_)
 ·rw[cz];exact pv
 ·simp only[VR]
  exact⟨by rw[cz];show aC _ id _ id≠none;rw[ag];simp,by simp[updν,yE]⟩
def KE(o:Option Value)(d l:Int):Prop:=(o=none∧l=d)∨ ∃k,o=some (.int k l)
theorem jE(hc:Core c σ a.tmps w M ν){x:Option Operand}{d:Int}{k:Int→Option α}(h:qo (x.map σ.ρ) d k=some r): ∃l,k l=some r∧KE (x.map a.eval) d l:=by
 cases x with
 |none=>exact⟨d,h,.inl ⟨rfl,rfl⟩⟩
 |some x=>
  obtain⟨i,n,hx,h⟩:=iy (h:oM (σ.ρ x) (λ_ x=>k x)=some r)
  have hv:=hc.ev x
  rw[hx]at hv
  exact⟨n,h,.inr ⟨i,by rw[←hv.int];rfl⟩⟩
theorem oA{s:Bool}{len cap:Nat}{lo hi mx:Option Value}{l h m:Int}(oB:KE lo 0 l)(DX:KE hi len h)(Gj:KE mx cap m)(hm:mx.isNone=true∨hi.isSome=true)
  (h0:0≤l) (h1:l≤h) (h2:h≤m) (h3:m≤cap):(Instr.sliceBounds s len cap lo hi mx).run P w= .ok (l.toNat,h.toNat,m.toNat) w:=by
 have hb: ∀(k:IntKind) (i:Int) (y:Nat) cd,0≤i→i≤y→(Instr.sliceBound (.int k i) y cd).run P w= .ok i.toNat w:=by
  intro k i y cd h1 h2
  simp[Instr.sliceBound,asIntOf,h1,h2]
 have eh:((m.toNat:Nat):Int)=m:=ω
 have hh':((h.toNat:Nat):Int)=h:=ω
 rcases Gj with⟨rfl,rfl⟩|⟨km,rfl⟩
 ·rcases DX with⟨rfl,rfl⟩|⟨kh,rfl⟩
  ·rcases oB with⟨rfl,rfl⟩|⟨kl,rfl⟩
   ·simp[Instr.sliceBounds]
   ·simp[Instr.sliceBounds,hb kl l len _ h0 h1]
  ·rcases oB with⟨rfl,rfl⟩|⟨kl,rfl⟩
   ·simp[Instr.sliceBounds,hb kh h cap _ ω h2]
   ·simp[Instr.sliceBounds,hb kh h cap _ ω h2,hb kl l h.toNat _ h0 ω]
 ·rcases DX with⟨rfl,rfl⟩|⟨kh,rfl⟩
  ·simp at hm
  ·rcases oB with⟨rfl,rfl⟩|⟨kl,rfl⟩
   ·simp[Instr.sliceBounds,hb km m cap _ ω h3,hb kh h m.toNat _ ω ω]
   ·simp[Instr.sliceBounds,hb km m cap _ ω h3,hb kh h m.toNat _ ω ω,hb kl l h.toNat _ h0 ω]
theorem yV{ρ:Operand→Value}{t:TypeId}{x:Operand}{lo hi mx:Option Operand}(ho:o.op= .slice t x lo hi mx){s:ByteArray}{l h:Int}(hu:P.underlying t=some .string)(hx:ρ x= .string s)
  (oB:KE (lo.map ρ) 0 l) (DX:KE (hi.map ρ) s.size h) (Gj:mx.isNone=true) (h0:0≤l) (h1:l≤h) (h2:h≤s.size):(execOp ρ o).run P w= .ok (.value (.string (s.extract l.toNat h.toNat))) w:=by
 have hm:mx=none:=by simpa using Gj
 subst hm
 have hb:=oA (P:=P) (w:=w) (s:=false) oB DX (.inl ⟨rfl,rfl⟩) (.inl rfl) h0 h1 h2 (fj _)
 simp[execOp,ho,hx,Instr.sliceAt,Instr.slice,run_underlying hu,hb]
theorem kB{ρ:Operand→Value}{t e:TypeId}{x:Operand}{lo hi mx:Option Operand}(ho:o.op= .slice t x lo hi mx){τ:Ty}{ad:Option Addr}{len cap:Nat}{l h m:Int}(hu:P.underlying t=some (.slice e))(hle:fe P τ e)(hx:ρ x= .slice ad len cap)
  (oB:KE (lo.map ρ) 0 l) (DX:KE (hi.map ρ) len h) (Gj:KE (mx.map ρ) cap m) (hm:(mx.map ρ).isNone=true∨(hi.map ρ).isSome=true) (h0:0≤l) (h1:l≤h) (h2:h≤m) (h3:m≤cap):
  (execOp ρ o).run P w= .ok (.value (.slice (if m.toNat=l.toNat then ad else ad.map (·.add (l.toNat*τ.size))) (h.toNat-l.toNat) (m.toNat-l.toNat))) w:=by
 have hb:=oA (P:=P) (w:=w) (s:=true) oB DX Gj hm h0 h1 h2 h3
 simp[execOp,ho,hx,Instr.sliceAt,Instr.slice,run_underlying hu,hb,bL hle]
theorem uw{x:Option Operand}(h:eW x=true)(a:Act): ∃k,x.map a.eval=some (.int k 0):=by
 unfold eW at h
 split at h
 ·rename_i k n
  have:n=0:=by simpa using h
  subst this
  exact⟨k,rfl⟩
 ·cases h
theorem Rd.cut{e:Ty}{ad:Option Addr}{len cap:Nat}{x:List e.den}(h:Rd w M (.slice e) [.slice ad len cap] x){l hh m:Int}(h0:0≤l)(h1:l≤hh)(h2:hh≤m)(hl:hh≤x.length):
  Rd w M (.slice e) [.slice (if m.toNat=l.toNat then ad else ad.map (·.add (l.toNat*e.size))) (hh.toNat-l.toNat) (m.toNat-l.toNat)] (List.drop l.toNat (List.take hh.toNat x)):=by
 simp only[Rd,cM,cT]at h ⊢
 obtain⟨a',iz,hv,hc,hr⟩:=h
 cases hv
 have hlen:ℓ (List.drop l.toNat (List.take hh.toNat x))=hh.toNat-l.toNat:=by rw[dn,a7];omega
 refine⟨_,_,by rw[hlen],by rw[hlen];omega,λi hi=> ?_⟩
 rw[hlen]at hi
 obtain⟨b,off,ha,hb,hm,cs,lK,fg⟩:=hr (l.toNat+i) ω
 rw[af ω]
 refine⟨b,off+l.toNat*e.size,by rw[ha];simp[Addr.add_lit],hb,hm,cs,?_,?_⟩
 ·rw[show off+l.toNat*e.size+i*e.size=off+(l.toNat+i)*e.size from by rw[cr];omega];exact lK
 ·simp only[wB,List.getElem_drop,wE]at fg ⊢
  exact fg
theorem VR.emp{H:Nat→Option az}{v:Value}:VR w M H ν .emp v↔ ∃ad,v= .slice ad 0 0:=by simp[VR]
theorem Ii(hE:EnvTy P E)(hc:Core c σ a.tmps w M ν){t:TypeId}{x:Operand}{lo hi mx:Option Operand}(ho:o.op= .slice t x lo hi mx){K:dp α}{τ:Ty}(ht:E.ty t=some τ)
  (h:kZ τ (lo.isNone&&eW hi&&eW mx) (σ.ρ x) (lo.map σ.ρ) (hi.map σ.ρ) (mx.map σ.ρ) σ.H K=some r) (hn:cW c σ a o w M ν K r next):o.wp P a w next Q:=by
 have nL:=hE.ty t τ ht
 have hv:=hc.ev x
 have DV: ∀(e:Ty) (e':TypeId) (ad:Option Addr) (len cap:Nat),P.underlying t=some (.slice e')→fe P e e'→a.eval x= .slice ad len cap→(lo.isNone&&eW hi&&eW mx)=true→
   ∃Wm,(execOp a.eval o).run P w= .ok (.value (.slice Wm 0 0)) w:=by
  intro e e' ad len cap hu hle hx hz
  simp only[bg]at hz
  obtain⟨⟨h1,h2⟩,h3⟩:=hz
  have h1:lo=none:=by simpa using h1
  subst h1
  obtain⟨k2,h2⟩:=uw h2 a
  obtain⟨k3,h3⟩:=uw h3 a
  have:=kB (P:=P) (w:=w) ho hu hle hx (l:=0) (h:=0) (m:=0) (.inl ⟨rfl,rfl⟩) (.inr ⟨k2,h2⟩) (.inr ⟨k3,h3⟩) (.inr (by rw[h2];rfl)) ω ω ω ω
  exact⟨_,this⟩
 unfold kZ at h
 split at h
 ·rename_i s hx
  obtain⟨hm,h⟩:=aP h
  obtain⟨l,h,oB⟩:=jE hc h
  obtain⟨hh,h,DX⟩:=jE hc h
  obtain⟨hk,h⟩:=aP h
  rw[pa]at hk
  obtain⟨h0,h1,h2,h3⟩:=bO hk
  rw[hx]at hv
  exact av (yV ho nL.str hv.str oB DX (by simpa using hm) h0 h1 h2) (hn _ [] [] _ _ _ _ h (.refl hc.mem) (.mkStr _))
 ·rename_i e hx
  obtain⟨e',hu,hle⟩:=nL.slice
  rw[hx]at hv
  obtain⟨ad,hv⟩:=VR.emp.1 hv
  cases hz:(lo.isNone&&eW hi&&eW mx)
  ·rw[hz]at h
   replace h:cond (mx.map σ.ρ).isNone (qo (lo.map σ.ρ) 0 λl=>qo (hi.map σ.ρ) 0 λh=>cond (kf l h 0 0) (K .emp [] []) none) none=some r:=h
   obtain⟨hm,h⟩:=aP h
   obtain⟨l,h,oB⟩:=jE hc h
   obtain⟨hh,h,DX⟩:=jE hc h
   obtain⟨hk,hK⟩:=aP h
   rw[pa]at hk
   obtain⟨h0,h1,h2,h3⟩:=bO hk
   have eh:mx=none:=by simpa using hm
   subst eh
   have:=kB (P:=P) (w:=w) ho hu hle hv oB DX (.inl ⟨rfl,rfl⟩) (.inl rfl) h0 h1 (m:=0) ω ω
   refine av this (hn _ [] [] _ _ _ _ hK (.refl hc.mem) (VR.emp.2 ?_))
   rw[show hh.toNat-l.toNat=0 from by omega,show(0:Int).toNat-l.toNat=0 from by omega]
   exact⟨_,rfl⟩
  ·rw[hz]at h
   obtain⟨Wm,bG⟩:=DV e e' ad 0 0 hu hle hv hz
   exact av bG (hn _ [] [] _ _ _ _ h (.refl hc.mem) (VR.emp.2 ⟨_,rfl⟩))
 ·rename_i e eX
  obtain⟨e',hu,hle⟩:=nL.slice
  cases hz:(lo.isNone&&eW hi&&eW mx)
  ·rw[hz]at h
   obtain⟨y,rd,ups,M',h,df,hV,_⟩:=fA (.refl _) hc.mem hv h
   replace h:cond ((mx.map σ.ρ).isNone||(hi.map σ.ρ).isSome) (qo (lo.map σ.ρ) 0 λl=>qo (hi.map σ.ρ) (ℓ y:Int) λh=>qo (mx.map σ.ρ) (ℓ y:Int) λm=>
    cond (kf l h m (ℓ y:Int)) (K (.val (.slice e) (List.drop l.toNat (List.take h.toNat y))) rd ups) none) none=some r:=h
   obtain⟨hm,h⟩:=aP h
   obtain⟨l,h,oB⟩:=jE hc h
   obtain⟨hh,h,DX⟩:=jE hc h
   obtain⟨m,h,Gj⟩:=jE hc h
   obtain⟨hk,h⟩:=aP h
   rw[pa]at hk
   obtain⟨h0,h1,h2,h3⟩:=bO hk
   have hr:=V.slice.1 hV
   have mK:=hr
   simp only[Rd,cM,cT]at mK
   obtain⟨ad,cap,hx,O1,_⟩:=mK
   rw[hx]at hr
   have eh:(mx.map a.eval).isNone=true∨(hi.map a.eval).isSome=true:=by
    simp only[js,Option.isNone_map,Option.isSome_map]at hm ⊢;exact hm
   have Ij: ∃m',KE (mx.map a.eval) cap m'∧hh≤m'∧m'≤cap:=by
    rcases Gj with⟨h9,_⟩|⟨k,h9⟩
    ·exact⟨cap,.inl ⟨h9,rfl⟩,ω,fj _⟩
    ·exact⟨m,.inr ⟨k,h9⟩,h2,ω⟩
   obtain⟨m',Ij,h4,h5⟩:=Ij
   have bG:=kB (P:=P) (w:=w) ho hu hle hx oB DX Ij eh h0 h1 h4 h5
   refine av bG (hn _ _ _ _ _ M' _ h df ?_)
   simp only[VR]
   exact V.slice.2 (hr.cut h0 h1 h4 ω)
  ·rw[hz]at h
   obtain⟨y,rd,h,hS⟩:=uk hc.mem hv h
   obtain⟨ad,cap,hx,_⟩:=hS
   obtain⟨Wm,bG⟩:=DV e e' ad _ cap hu hle hx hz
   exact av bG (hn _ _ [] _ _ _ _ h (.refl hc.mem) (VR.emp.2 ⟨_,rfl⟩))
 ·cases h
theorem Gk(hE:EnvTy P E)(hc:Core c σ a.tmps w M ν){t:TypeId}{x:Operand}{lo hi mx:Option Operand}(ho:o.op= .slice t x lo hi mx){K:dp α}{τ:Ty}(ht:E.ty t=some τ)
  (h:pg E τ (lo.isNone&&eW hi&&eW mx) (σ.ρ x) (lo.map σ.ρ) (hi.map σ.ρ) (mx.map σ.ρ) σ.H K=some r) (hn:cW c σ a o w M ν K r next):o.wp P a w next Q:=by
 unfold pg at h
 split at h
 ·rename_i e id lo' Wn hx oB DX Gj
  have nL:=hE.ty t _ ht
  obtain⟨e',hu,hle⟩:=nL.slice
  have hv:=hc.ev x
  rw[hx]at hv
  simp only[VR]at hv
  obtain⟨h0,hv⟩:=hv
  have h:qo (lo.map σ.ρ) 0 (λi=>match σ.H id with
   |some (.own e' l)=>ef e' e (cond (kf i (ℓ l:Int) (ℓ l:Int) (ℓ l:Int)) (K (.sub id e i.toNat) [id] []) none)
   |_=>none)=some r:=by rw[oB];exact h
  obtain⟨i,h,hb⟩:=jE hc h
  split at h
  ·rename_i e2 l hid
   obtain⟨e1,h⟩:=bU h
   subst e1
   obtain⟨hk,h⟩:=aP h
   rw[pa]at hk
   obtain⟨h1,h2,_,_⟩:=bO hk
   obtain⟨ad,cap,KF⟩:=ER.xe (hc.mem.dH id _ hid)
   have O1:l.length≤cap:=by
    have:=hc.mem.dH id _ hid
    simp only[ER]at this
    rcases this with⟨rfl,a,KD⟩|⟨b,cs,t,cp,KD,_,_,_,hl,_⟩
    ·simp
    ·rw[KF]at KD;simp only[Value.slice.injEq]at KD;obtain⟨_,_,rfl⟩:=KD;exact hl
   have Xm:hi=none:=by simpa using DX
   have Ij:mx=none:=by simpa using Gj
   subst Xm Ij
   have bG:=kB (P:=P) (w:=w) ho hu hle (hv.trans KF) (l:=i) (h:=(l.length:Int)) (m:=(cap:Int)) hb (.inl ⟨rfl,rfl⟩) (.inl ⟨rfl,rfl⟩) (.inl rfl) h1 h2 ω (fj _)
   refine av bG (hn _ _ [] _ _ _ _ h (.refl hc.mem) ?_)
   simp only[VR]
   exact⟨h0,ad,_,cap,KF,by simp⟩
  ·cases h
 ·exact Ii hE hc ho ht h hn
theorem pz{t ty e:TypeId}{i:TypeInfo}(ht:P.underlying t=some (.slice e))(hi:P.info? e=some i)(base:Option Addr)(n cap:Nat)(h:n≤cap)(a':Option Addr)(cp:Nat):
  (Builtin.append_ #[t,t] ty #[.slice base n cap,.slice a' 0 cp]).run P w= .ok (.slice base n cap) w:=by
 cases a'<;>cases base<;>simp[Builtin.append_,run_underlying ht,Go.sizeOf,typeInfo,hi,Builtin.lenOf,h,Builtin.firstCells,loadCells,loadCellsFrom,storeCells]
theorem BZ{t ty e te:TypeId}{i:TypeInfo}(ht:P.underlying t=some (.slice e))(hi:P.info? e=some i){b n cap m cp:Nat}{a':Addr}{news:List Value}{cs:Array Value}
  (hg:w.heap[b]? =some (.cells cs te (0,0))) (hs:cs.size=cap*i.size) (hl:news.length=m*i.size) (hn: ∀j u,news[j]? =some u→w.cell? (a'.add j)=some u) (h1: ∀u∈news,u.oneCell'=true) (hr:n+m≤cap):
  (Builtin.append_ #[t,t] ty #[.slice (some ⟨b,0,none⟩) n cap,.slice (some a') m cp]).run P w= .ok (.slice (some ⟨b,0,none⟩) (n+m) cap) (w.setRow b (ca cs.toList (n*i.size) news).toArray):=by
 have hf:=run_firstCells_some (P:=P) w i.size m a' m cp news hl hn
 have hm:(n+m)*i.size≤cap*i.size:=eB _ hr
 rw[cr]at hm
 have zo:=run_storeCells_at (P:=P) b (n*i.size) te news 0 cs w hg ω h1
 simp only[gr]at zo
 simp[Builtin.append_,run_underlying ht,Go.sizeOf,typeInfo,hi,Builtin.lenOf,hr,hf,Addr.add_lit,zo,ca]
theorem dU{args:Array Operand}{t:TypeId}{x y:Operand}{v:Value}{w':World}(ho:o.op= .call {callee:= .builtin .append,args,argTypes:= #[t,t]})(ha:args.toList=[x,y])
  (h:(Builtin.append_ #[t,t] o.type #[a.eval x,a.eval y]).run P w= .ok v w'):(execOp a.eval o).run P w= .ok (.value v) w':=by
 obtain⟨cs,hr⟩:=iw (P:=P) (ρ:=a.eval) ho (w:=w)
 rw[hr]
 have:args.map a.eval= #[a.eval x,a.eval y]:=by apply eb;simp[ha]
 rw[this]
 simp[builtin,h]
theorem xg{H:Nat→Option az}(hm:Mem c H w M ν){id:Nat}(hid:H id=none){t ty:TypeId}{e':TypeId}{e:Ty}(hu:P.underlying t=some (.slice e'))(hle:fe P e e')
  {xs ys:List e.den} {olds news:List Value} {base:Option Addr} {cap cp:Nat} {a':Addr} (Ik:base=none→xs=[]∧cap=0)
  (oB:olds.length=xs.length*e.size) (hro:jT w M e olds xs) (ho: ∀b,base=some b→ ∀j u,olds[j]? =some u→w.cell? (b.add j)=some u)
  (KG:news.length=ys.length*e.size) (hrn:jT w M e news ys) (hn: ∀j u,news[j]? =some u→w.cell? (a'.add j)=some u)
  (hg:cap<xs.length+ys.length) (hs:xs.length+ys.length<sh):
  ∃v w' M' ν',(Builtin.append_ #[t,t] ty #[.slice base xs.length cap,.slice (some a') ys.length cp]).run P w= .ok v w'∧Tr c H w M ν (aC H id (some (.own e (xs++ys)))) w' M' ν'∧ν' id=v:=by
 obtain⟨i,hi,kz,hz,Sh⟩:=hle.base
 have O7:(aK e e.aW).cells.size=e.size:=by rw[←aJ,cX,gx]
 have Si:xs.length+ys.length≤maxLen:=by simp only[sh,maxLen]at hs ⊢;omega
 have xh:(xs.length+ys.length)*i.bytes≤140737488355328:=by
  have:(xs.length+ys.length)*i.bytes≤68719476736*2048:=rX (by simp only[sh]at hs;omega) Sh
  omega
 have bG: ∃iz rest,(Builtin.append_ #[t,t] ty #[.slice base xs.length cap,.slice (some a') ys.length cp]).run P w= .ok (.slice (some ⟨w.heap.size,0,none⟩) (xs.length+ys.length) iz) (w.drew.alloc (.cells (olds++news++rest).toArray e'))∧
   xs.length+ys.length≤iz∧iz≤maxLen∧rest.length=(iz-(xs.length+ys.length))*e.size:=by
  refine⟨grownCap w (xs.length+ys.length) cap e',(Builtin.zeroCells (aK e e.aW).cells (grownCap w (xs.length+ys.length) cap e'-(xs.length+ys.length))).toList,?_,grownCap_ge _ _ _ _,grownCap_le_maxLen _ _ _ _ Si,?_⟩
  ·cases base with
   |none=>
    obtain⟨rfl,rfl⟩:=Ik rfl
    have Xn:olds=[]:=ij (by rw[oB];simp)
    subst Xn
    have:=run_append_nil (P:=P) w t ty e' i _ hu hi hz a' ys.length cp news (by rw[KG,kz]) hn (by simpa using hg) (by simp only[sh]at hs;omega) (by simp at xh;omega)
    simp only[bM,c7,fT]
    rw[this]
    congr 2
    apply gv (λz=>Obj.cells z e' (0,0))
    apply eb;simp
   |some b=>
    have:=run_append_grow (P:=P) w t ty e' i _ hu hi hz b xs.length cap olds (by rw[oB,kz]) (ho b rfl) a' ys.length cp news (by rw[KG,kz]) hn hg (by simp only[sh]at hs;omega) (growslice_fits hg xh)
    rw[this]
    congr 2
    apply gv (λz=>Obj.cells z e' (0,0))
    apply eb;simp
  ·rw[aJ,size_zeroCells,O7]
 obtain⟨iz,rest,bG,rq,Lb,Ta⟩:=bG
 have hlen:(xs++ys).length=xs.length+ys.length:=aO
 have hd:=Tr.drew hm
 have Wl:(olds++news).length=(xs++ys).length*e.size:=by rw[aO,oB,KG,hlen,cr]
 have vt:=Tr.row hd.mem hid e' (e:=e) (cs:=(olds++news++rest).toArray) (l:=xs++ys) (cap:=iz) (by rw[hlen];exact rq) Lb
  (by rw[dZ,aO,Wl,Ta,hlen,←cr];congr 1;omega)
  (jT.more ((hro.append oB hrn).aV hd.aV) (by rw[Wl];exact aH _))
 refine⟨_,_,_,_,bG,hd.trans vt,?_⟩
 rw[←hlen];simp[updν]
theorem Gl(hE:EnvTy P E)(hc:Core c σ a.tmps w M ν){args:Array Operand}{ts:Array TypeId}{t t':TypeId}{x y:Operand}(ho:o.op= .call {callee:= .builtin .append,args,argTypes:=ts})(ha:args.toList=[x,y])(O8:ts.toList=[t,t']){K:dp α}{e:Ty}
  (ht:E.ty t=some (.slice e)) {id:Nat} (h:cond (Nat.beq t t') (ku σ.H id (.own e []) (BH id e (σ.ρ x) (σ.ρ y) σ.H K)) none=some r) (hn:cW c σ a o w M ν K r next):o.wp P a w next Q:=by
 obtain⟨Xo,h1⟩:=aP h
 clear h
 have Xo:=cJ Xo
 subst Xo
 obtain⟨hid,h⟩:=fC h1
 clear h1
 have Xp:ts= #[t,t]:=by apply eb;simpa using O8
 subst Xp
 obtain⟨e',hu,hle⟩:=(hE.ty t _ ht).slice
 obtain⟨i,hi,kz,hz,Sh⟩:=hle.base
 have yI:=hc.ev x
 unfold BH at h
 obtain⟨ys,rd,h,hS⟩:=uk hc.mem (hc.ev y) h
 have O9:(ys=[]∧ ∃a' cp,a.eval y= .slice a' 0 cp)∨(ys≠[]∧ ∃a' cp news,a.eval y= .slice (some a') ys.length cp∧news.length=ys.length*e.size∧(∀j u,news[j]? =some u→w.cell? (a'.add j)=some u)∧jT w M e news ys∧ ∀u∈news,u.oneCell'=true):=by
  by_cases hy:ys=[]
  ·left
   obtain⟨a',cp,hv,_⟩:=hS
   exact⟨hy,a',cp,by rw[hv,hy];rfl⟩
  ·right
   obtain⟨b,off,cp,news,hv,hl,lK,fg,h1⟩:=hS.cells hy
   exact⟨hy,⟨b,off,none⟩,cp,news,hv,hl,λj u hj=>by rw[Addr.add_lit];exact lK j u hj,fg,h1⟩
 split at h
 ·
  rename_i hx
  rw[hx]at yI
  obtain⟨ad,yI⟩:=VR.emp.1 yI
  obtain⟨KH,h⟩:=aP h
  rw[wT]at KH
  have KH:=bO KH
  rcases O9 with⟨rfl,a',cp,oy⟩|⟨hy,a',cp,news,oy,hl,lK,fg,h1⟩
  ·refine av (dU ho ha (by rw[yI,oy];exact pz hu hi ad 0 0 (aH _) a' cp)) (hn _ _ _ _ _ _ _ h (Tr.nothing hc.mem hid e ad) ?_)
   simp only[VR]
   exact⟨by show aC _ id _ id≠none;rw[ag];simp,by simp[updν]⟩
  ·have Il:0<ys.length:=mT.2 hy
   obtain⟨v,w',M',ν',bG,df,hv⟩:=xg (P:=P) (ty:=o.type) hc.mem hid hu hle (xs:=[]) (ys:=ys) (olds:=[]) (news:=news) (base:=ad) (cap:=0) (cp:=cp) (a':=a') (λ_=>⟨rfl,rfl⟩) (by simp) (λi hi=>absurd hi (by simp)) (λ_ _ j u hj=>by simp at hj)
    hl fg lK (by simpa using Il) (by simpa using KH)
   refine av (dU ho ha (by rw[yI,oy];exact bG)) (hn _ _ _ _ _ _ _ h df ?_)
   simp only[VR]
   exact⟨by show aC _ id _ id≠none;rw[ag];simp,hv.symm⟩
 ·
  rename_i j hx
  rw[hx]at yI
  simp only[VR]at yI
  obtain⟨_,yI⟩:=yI
  split at h
  ·rename_i e1 l hj
   obtain⟨e2,h⟩:=aE h
   cases e2
   obtain⟨KH,h⟩:=aP h
   rw[wT]at KH
   have KH:l.length+ys.length<sh:=bO KH
   have eX:id≠j:=λe=>by rw[e,hj]at hid;cases hid
   have jV:aC σ.H j (some .gone) id=none:=by rw[aj _ _ eX];exact hid
   have Al:=Tr.gone hc.mem j
   have ff:=hc.mem.dH j _ hj
   simp only[ER]at ff
   rcases ff with⟨rfl,ad,Pb⟩|⟨b,cs,te,cap,Pb,hg,hM,F9,hl,vR,hs,hr⟩
   ·rw[Pb]at yI
    rcases O9 with⟨rfl,a',cp,oy⟩|⟨hy,a',cp,news,oy,hl,lK,fg,h1⟩
    ·refine av (dU ho ha (by rw[yI,oy];exact pz hu hi ad 0 0 (aH _) a' cp)) (hn _ _ _ _ _ _ _ h (Al.trans (Tr.nothing Al.mem jV e ad)) ?_)
     simp only[VR]
     exact⟨by show aC _ id _ id≠none;rw[ag];simp,by simp[updν]⟩
    ·have Il:0<ys.length:=mT.2 hy
     obtain⟨v,w',M',ν',bG,df,hv⟩:=xg (P:=P) (ty:=o.type) Al.mem jV hu hle (xs:=[]) (ys:=ys) (olds:=[]) (news:=news) (base:=ad) (cap:=0) (cp:=cp) (a':=a') (λ_=>⟨rfl,rfl⟩) (by simp) (λi hi=>absurd hi (by simp)) (λ_ _ j u hj=>by simp at hj)
      hl fg lK (by simpa using Il) (by simpa using KH)
     refine av (dU ho ha (by rw[yI,oy];exact bG)) (hn _ _ _ _ _ _ _ h (Al.trans df) ?_)
     simp only[VR]
     exact⟨by show aC _ id _ id≠none;rw[ag];simp,hv.symm⟩
   ·rw[Pb]at yI
    have w9:cs.toList.length=cap*e.size:=by rw[aJ,hs]
    have Xq:l.length*e.size≤cap*e.size:=eB _ hl
    rcases O9 with⟨rfl,a',cp,oy⟩|⟨hy,a',cp,news,oy,KG,lK,fg,h1⟩
    ·refine av (dU ho ha (by rw[yI,oy];exact pz hu hi _ _ cap hl a' cp)) (hn _ _ _ _ _ M (updν ν id (ν j)) h ?_ ?_)
     ·refine Tr.rename hc.mem hj hid (.inr rfl) ?_
      rw[cy]
      exact hc.mem.dH j _ hj
     ·simp only[VR]
      exact⟨by show aC _ id _ id≠none;rw[ag];simp,by simp[updν,Pb]⟩
    ·by_cases sD:l.length+ys.length≤cap
     ·have hmul:(l.length+ys.length)*e.size≤cap*e.size:=eB _ sD
      rw[cr]at hmul
      have bG:=BZ (P:=P) (ty:=o.type) hu hi (w:=w) (b:=b) (n:=l.length) (cap:=cap) (m:=ys.length) (cp:=cp) (a':=a') (news:=news) (cs:=cs) hg (by rw[hs,kz]) (by rw[KG,kz]) lK h1 sD
      rw[kz]at bG
      have KY:ca cs.toList (l.length*e.size) news=(cs.toList.take (l.length*e.size)++news)++cs.toList.drop (l.length*e.size+news.length):=rfl
      have hold:jT w M e (cs.toList.take (l.length*e.size)) l:=jT.take hr (aH _)
      have htl:(cs.toList.take (l.length*e.size)).length=l.length*e.size:=by rw[a7];omega
      have NC:jT w M e (ca cs.toList (l.length*e.size) news) (l++ys):=by
       rw[KY]
       refine jT.more (hold.append htl fg) ?_
       rw[aO,aO,htl,KG,cr];exact aH _
      have Xr:(ca cs.toList (l.length*e.size) news).length=cap*e.size:=by rw[bV ω];exact w9
      have Lc:Tr c σ.H w M ν (aC σ.H j (some (.own e l))) (w.setRow b (ca cs.toList (l.length*e.size) news).toArray) M ν:=by
       refine Tr.write (e':= .own e l) hc.mem hj trivial trivial (.refl _) (by rw[Pb];simp[cn];omega) hg λzm hk pw=> ?_
       simp only[ER]
       refine .inr ⟨b,_,te,cap,Pb,setRow_heap w b cs _ te _ hg,pw,F9,hl,vR,by rw[dZ];exact Xr,λk nf=> ?_⟩
       have:=(NC k (by rw[aO];omega)).aV hk
       rw[rD nf]at this
       exact this
      rw[tp hj]at Lc
      have pv:Tr c σ.H (w.setRow b (ca cs.toList (l.length*e.size) news).toArray) M ν (aC (aC σ.H j (some .gone)) id (some (.own e (l++ys)))) (w.setRow b (ca cs.toList (l.length*e.size) news).toArray) M (updν ν id (.slice (some ⟨b,0,none⟩) (l++ys).length cap)):=by
       refine Tr.rename Lc.mem hj hid (.inr (by rw[Pb];simp[cn])) ?_
       simp only[ER]
       refine .inr ⟨b,_,te,cap,rfl,setRow_heap w b cs _ te _ hg,hM,F9,by rw[aO];exact sD,vR,by rw[dZ];exact Xr,(NC.aV Lc.aV)⟩
      refine av (dU ho ha (by rw[yI,oy];exact bG)) (hn _ _ _ _ _ _ _ h (Lc.trans pv) ?_)
      simp only[VR]
      exact⟨by show aC _ id _ id≠none;rw[ag];simp,by simp[updν]⟩
     ·obtain⟨v,w',M',ν',bG,df,hv⟩:=xg (P:=P) (ty:=o.type) Al.mem jV hu hle (xs:=l) (ys:=ys) (olds:=cs.toList.take (l.length*e.size)) (news:=news) (base:=some ⟨b,0,none⟩) (cap:=cap) (cp:=cp) (a':=a') (λh=>by cases h)
       (by rw[a7];omega) (jT.take hr (aH _)) (λb' bT k u hk=>by
        cases bT
        rw[Addr.add_lit,cell_of hg]
        rw[gK]at hk
        split at hk
        ·rw[←dm];simpa using hk
        ·cases hk)
       KG fg lK ω KH
      refine av (dU ho ha (by rw[yI,oy];exact bG)) (hn _ _ _ _ _ _ _ h (Al.trans df) ?_)
      simp only[VR]
      exact⟨by show aC _ id _ id≠none;rw[ag];simp,hv.symm⟩
  ·cases h
 ·cases h
theorem jT.over{e:Ty}{cs zs:List Value}{l1 l2:List e.den}{n:Nat}(h1:jT w M e cs l1)(h2:jT w M e zs l2)(hn:n≤l1.length)(hc:l1.length*e.size≤cs.length)(hz:zs.length=l2.length*e.size)(hs:n*e.size+zs.length≤cs.length):
  jT w M e (ca cs (n*e.size) zs) (List.take n l1++l2):=by
 intro i hi
 rw[aO,a7,du hn]at hi
 by_cases c6:i<n
 ·have:=cc (s:=e.size) c6
  rw[vQ (.inl this) hs,rD (by rw[a7];omega),wE]
  exact h1 i ω
 ·have h3:=h2 (i-n) ω
  have E5:i-n<l2.length:=ω
  have h4:=cc (s:=e.size) E5
  have h5:i*e.size=n*e.size+(i-n)*e.size:=by rw[←cr];congr 1;omega
  have h6:((ca cs (n*e.size) zs).drop (i*e.size)).take e.size=(zs.drop ((i-n)*e.size)).take e.size:=by
   unfold ca
   have hl:(cs.take (n*e.size)).length=n*e.size:=by rw[a7];omega
   rw[h5,bs,←eC,jj hl,rz ω,ry (by rw[dn];omega)]
  rw[h6,wv (by rw[a7];omega)]
  simp only[a7,du hn]
  exact h3
theorem sE{args:Array Operand}{t:TypeId}{x:Operand}{v:Value}{w':World}(ho:o.op= .call {callee:= .builtin .clear,args,argTypes:= #[t]})(ha:args.toList=[x])
  (h:(Builtin.clear_ #[t] o.type #[a.eval x]).run P w= .ok v w'):(execOp a.eval o).run P w= .ok (.value v) w':=by
 obtain⟨cs,hr⟩:=iw (P:=P) (ρ:=a.eval) ho (w:=w)
 rw[hr]
 have:args.map a.eval= #[a.eval x]:=by apply eb;simp[ha]
 rw[this]
 simp[builtin,h]
theorem Im(hE:EnvTy P E)(hc:Core c σ a.tmps w M ν){args:Array Operand}{ts:Array TypeId}{t:TypeId}{x:Operand}(ho:o.op= .call {callee:= .builtin .clear,args,argTypes:=ts})(ha:args.toList=[x])(O8:ts.toList=[t]){K:dp α}{e:Ty}
  (ht:E.ty t=some (.slice e)) (h:qQ e (σ.ρ x) σ.H K=some r) (hn:cW c σ a o w M ν K r next):o.wp P a w next Q:=by
 have O8:ts= #[t]:=by apply eb;simp[O8]
 subst O8
 have hv:=hc.ev x
 unfold qQ at h
 split at h
 ·rename_i id e1 lo hx
  obtain⟨e2,h0⟩:=bU h
  clear h
  subst e2
  rw[hx]at hv
  simp only[VR]at hv
  obtain⟨ab8,ad,n,cap,KF,hv⟩:=hv
  split at h0
  ·rename_i e3 l hid
   obtain⟨e4,h⟩:=aE h0
   clear h0
   cases e4
   obtain⟨e',hu,hle⟩:=(hE.ty t _ ht).slice
   obtain⟨i,hi,hs,hz,_⟩:=hle.base
   have ff:=hc.mem.dH id _ hid
   simp only[ER]at ff
   rcases gq lo l.length with c6|Ld
   ·rcases ff with⟨rfl,_⟩|⟨b,cs,te,iz,hb,hg,hM,F9,hl,vR,kz,hr⟩
    ·simp at c6
    ·rw[KF]at hb
     simp only[Value.slice.injEq]at hb
     obtain⟨rfl,rfl,rfl⟩:=hb
     rw[af ω]at hv
     have O7:(aK e1 e1.aW).cells.size=e1.size:=by rw[←aJ,cX,gx]
     have Sf:Builtin.zeroCells (aK e1 e1.aW).cells (l.length-lo)=madeCells (aK e1 e1.aW).cells ((l.length-lo)*e1.size):=by
      unfold Builtin.zeroCells madeCells;rw[O7]
     have Wo:(madeCells (aK e1 e1.aW).cells ((l.length-lo)*e1.size)).toList.length=(l.length-lo)*e1.size:=by rw[aJ,size_madeCells]
     have tq: ∀u∈(madeCells (aK e1 e1.aW).cells ((l.length-lo)*e1.size)).toList,u.oneCell'=true:=by
      intro u hu
      have hm:u∈(aK e1 e1.aW).cells.toList:=by
       simp only[madeCells,Array.toList_map,cN]at hu
       obtain⟨j,hj,rfl⟩:=hu
       rw[Array.mem_toList_iff,Array.mem_range]at hj
       have h0:0<e1.size:=by
        rcases Nat.eq_zero_or_pos e1.size with h0|h0
        ·rw[h0]at hj;simp at hj
        ·exact h0
       have sv:j%(aK e1 e1.aW).cells.size<(aK e1 e1.aW).cells.size:=Nat.mod_lt _ ω
       rw[getElem!_pos (aK e1 e1.aW).cells _ sv]
       exact Array.getElem_mem_toList sv
      rw[cX]at hm
      exact(Rd.zero w M e1).fU u hm
     have xh:lo*e1.size+(l.length-lo)*e1.size≤cs.size:=by
      rw[kz,←cr]
      exact eB _ ω
     have zo:=run_storeCells_at (P:=P) b (lo*e1.size) te (madeCells (aK e1 e1.aW).cells ((l.length-lo)*e1.size)).toList 0 cs w hg (by rw[Wo];omega) tq
     simp only[gr]at zo
     obtain⟨m,hm⟩: ∃m,l.length-lo=m+1:=⟨l.length-lo-1,ω⟩
     have bG:(Builtin.clear_ #[t] o.type #[a.eval x]).run P w= .ok (.tuple #[]) (w.setRow b (ca cs.toList (lo*e1.size) (madeCells (aK e1 e1.aW).cells ((l.length-lo)*e1.size)).toList).toArray):=by
      rw[hv]
      rw[hm]at zo Sf ⊢
      simp[Builtin.clear_,run_underlying hu,zeroValue,typeInfo,hi,hz,Addr.add_lit,Sf,zo,ca]
     have df:=Tr.write (e':= .own e1 (List.take lo l++List.replicate (ℓ l-lo) e1.zero)) (new:=(ca cs.toList (lo*e1.size) (madeCells (aK e1 e1.aW).cells ((l.length-lo)*e1.size)).toList).toArray) hc.mem hid trivial trivial ⟨rfl,by simp;omega⟩ (by rw[KF];simp[cn];omega) hg (λzm hk pw=>by
      simp only[ER]
      refine .inr ⟨b,_,te,cap,?_,setRow_heap w b cs _ te _ hg,pw,F9,by simp;omega,vR,?_,?_⟩
      ·rw[KF];simp;omega
      ·rw[dZ,bV (by rw[Wo,aJ];exact xh),aJ,kz]
      ·have h1:jT w M e1 cs.toList l:=hr
       have h2:=jT.made w M e1 (n:=(l.length-lo)*e1.size) (l:=l.length-lo) (aH _)
       have h3:=jT.over h1 h2 (n:=lo) ω (ea (eB _ hl) (Nat.le_of_eq (by rw[aJ,kz]))) (by rw[Wo,a5]) (by rw[Wo,aJ];exact xh)
       exact h3.aV hk)
     exact av (sE ho ha bG) (hn _ _ _ _ _ _ _ h df (by simp[VR]))
   ·
    have yE:List.take lo l++List.replicate (ℓ l-lo) e1.zero=l:=by
     rw[dI Ld,show l.length-lo=0 from by omega];simp
    have Wp:n=l.length:=by
     obtain⟨Wm,iz,hh⟩:=ER.xe (hc.mem.dH id _ hid)
     rw[KF]at hh;simp only[Value.slice.injEq]at hh;exact hh.2.1
    have bG:(Builtin.clear_ #[t] o.type #[a.eval x]).run P w= .ok (.tuple #[]) w:=by
     rw[hv,show n-lo=0 from by omega]
     cases(if cap=lo then ad else ad.map (·.add (lo*e1.size)))<;>simp[Builtin.clear_,run_underlying hu]
    have hH:aC σ.H id (some (.own e1 l))=σ.H:=by
     funext j
     by_cases hj:j=id
     ·subst hj;rw[ag,hid]
     ·rw[aj _ _ hj]
    refine av (sE ho ha bG) (hn _ _ _ _ _ M ν h ?_ (by simp[VR]))
    show Tr c σ.H w M ν (aC σ.H id (some (.own e1 (List.take lo l++List.replicate (ℓ l-lo) e1.zero)))) w M ν
    rw[yE,hH]
    exact .refl hc.mem
  ·cases h0
 ·cases h
end VM
end
