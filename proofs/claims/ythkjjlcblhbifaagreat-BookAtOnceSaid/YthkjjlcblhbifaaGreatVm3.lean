/- A part of the proof of BookAtOnce of layer 18: a machine that reads a function of the program as an equation between values. -/
import Derived.Test.YthkjjlcblhbifaaGreatVm2
import Derived.Great.FillDense
set_option linter.all false
open List renaming length→ℓ
section
namespace VM
open Go
variable{P:Program}{E:Env}{o:Oper}{a:Act}{w:World}{M:Nat→Prop}{ν:Nat→Value}{σ:St}{c:Ctx}{α:Type}{r:α}{next:Act→World→Prop}{Q:Exit→Act→World→Prop}
theorem Vd{b:BinOp}{k k':IntKind}{x y:Int}{t:TypeId}{K:bA→Option α}(h:shK b k x y K=some r):
  ∃z,K (.val (.int k) z)=some r∧(binOp b t (.int k x) (.int k' y)).run P w= .ok (.int k z) w:=by
 unfold shK at h
 split at h
 ·obtain⟨h0,h⟩:=nn h
  rw[qd]at h0
  have h0: ¬y<0:=by simpa using h0
  refine⟨_,h,?_⟩
  rw[Gj,Xy]
  simp[binOp,Op.shift,h0]
 ·obtain⟨h0,h⟩:=nn h
  rw[qd]at h0
  have h0: ¬y<0:=by simpa using h0
  refine⟨_,h,?_⟩
  rw[RJ]
  simp[binOp,Op.shift,h0]
 ·cases h
theorem LB{b:BinOp}{k:IntKind}{x y:Int}{t:TypeId}{K:bA→Option α}(h:vb b k x y K=some r):
  ∃v u,K v=some r∧(binOp b t (.int k x) (.int k y)).run P w= .ok u w∧ ∀H,VR w M H ν v u:=by
 unfold vb at h
 split at h
 ·exact⟨_,_,h,by simp[binOp,Op.intArith,Gj],λH=> .mkInt _ _⟩
 ·exact⟨_,_,h,by simp[binOp,Op.intArith,Gj],λH=> .mkInt _ _⟩
 ·exact⟨_,_,h,by simp[binOp,Op.intArith,Gj],λH=> .mkInt _ _⟩
 ·obtain⟨h0,h⟩:=nn h
  rw[kj]at h0
  have h0: ¬y=0:=by simpa using h0
  exact⟨_,_,h,by simp[binOp,Op.intDiv,Gj,ajD,h0],λH=> .mkInt _ _⟩
 ·obtain⟨h0,h⟩:=nn h
  rw[kj]at h0
  have h0: ¬y=0:=by simpa using h0
  exact⟨_,_,h,by simp[binOp,Op.intDiv,ajE,h0],λH=> .mkInt _ _⟩
 ·exact⟨_,_,h,by simp[binOp,Op.intBits,u7],λH=> .mkInt _ _⟩
 ·exact⟨_,_,h,by simp[binOp,Op.intBits,u7],λH=> .mkInt _ _⟩
 ·exact⟨_,_,h,by simp[binOp,Op.intBits,u7],λH=> .mkInt _ _⟩
 ·exact⟨_,_,h,by simp[binOp,Op.intBits,u7],λH=> .mkInt _ _⟩
 ·exact⟨_,.bool (decide (x=y)),h,by simp[binOp,Op.intCmp];rfl,λH=>by rw[kj];exact .vf _⟩
 ·exact⟨_,.bool (!decide (x=y)),h,by simp[binOp,Op.intCmp];rfl,λH=>by rw[kj];exact .vf _⟩
 ·exact⟨_,_,h,by simp[binOp,Op.intCmp,qd],λH=> .vf _⟩
 ·exact⟨_,_,h,by simp[binOp,Op.intCmp,mZ],λH=> .vf _⟩
 ·exact⟨_,_,h,by simp[binOp,Op.intCmp,qd],λH=> .vf _⟩
 ·exact⟨_,_,h,by simp[binOp,Op.intCmp,mZ],λH=> .vf _⟩
 ·cases h
theorem Ve{t:Option Ty}{op:BinOp}{τ:Ty}{x:τ.den}{υ:Ty}{y:υ.den}{K:bA→Option α}(h:Gm t op τ x υ y K=some r):
  (∃(k k':IntKind) (m n:Int),bA.val τ x= .val (.int k) m∧bA.val υ y= .val (.int k') n∧(cond (abC op) (shK op k m n K) (if k=k' then vb op k m n K else none))=some r)∨
  (∃z:τ.den,bA.val υ y= .val τ z∧t=some τ∧τ.comparable=true∧((op= .eql∧K (.val .bool (pn τ x z))=some r)∨(op= .neq∧K (.val .bool (!pn τ x z))=some r))):=by
 unfold Gm at h
 split at h
 ·exact .inl ⟨_,_,_,_,rfl,rfl,h⟩
 ·right
  split at h
  ·cases h
  ·obtain⟨e,h1⟩:=dU h
   clear h
   subst e
   obtain⟨hc,h⟩:=cz h1
   clear h1
   split at h
   ·obtain⟨e,h1⟩:=bw h
    subst e
    exact⟨_,rfl,rfl,hc,.inl ⟨rfl,h1⟩⟩
   ·obtain⟨e,h1⟩:=bw h
    subst e
    exact⟨_,rfl,rfl,hc,.inr ⟨rfl,h1⟩⟩
   ·cases h
theorem DI{t:TypeId}(hu:P.underlying t=some .bool)(x y:Bool)(w:World):(Op.equal t (.bool x) (.bool y)).run P w= .ok (x==y) w:=by
 unfold Op.equal
 obtain⟨n,hn⟩: ∃n,Op.maxDepth=n+1:=⟨9999,rfl⟩
 rw[hn]
 simp[Op.equalIn,run_underlying hu]
theorem run_eql_bool{t:TypeId}(hu:P.underlying t=some .bool)(x y:Bool):(binOp .eql t (.bool x) (.bool y)).run P w= .ok (.bool (x==y)) w:=by
 simp[binOp,DI hu]
theorem run_neq_bool{t:TypeId}(hu:P.underlying t=some .bool)(x y:Bool):(binOp .neq t (.bool x) (.bool y)).run P w= .ok (.bool (!(x==y))) w:=by
 simp[binOp,DI hu]
theorem aoO(x y:ByteArray):(x.toList==y.toList)=decide (x.toList=y.toList):=by
 rw[pH];simp
theorem N3{t:TypeId}(x y:ByteArray):(binOp .eql t (.string x) (.string y)).run P w= .ok (.bool (decide (x.toList=y.toList))) w:=by
 simp[binOp,Op.stringOp,aoO]
theorem N4{t:TypeId}(x y:ByteArray):(binOp .neq t (.string x) (.string y)).run P w= .ok (.bool (!decide (x.toList=y.toList))) w:=by
 simp[binOp,Op.stringOp,aoO]
theorem XJ(hE:EnvTy P E)(hc:Core c σ a.tmps w M ν){b:BinOp}{t t':TypeId}{x y:Operand}(ho:o.op= .binOp b t x y t'){K:gL α}
  (h:NN (σ.ρ x) (fun τ x=>NN (σ.ρ y) fun υ y=>Gm (E.ty t) b τ x υ y λv=>K v [] [])=some r) (hn:fH c σ a o w M ν K r next):o.wp P a w next Q:=by
 have hx:=hc.ev x
 have hy:=hc.ev y
 unfold NN at h
 split at h
 ·rename_i τ x' hxe
  split at h
  ·rename_i υ y' hye
   rw[hxe]at hx;rw[hye]at hy
   rcases Ve h with⟨k,k',m,n,e1,e2,h1⟩|⟨z,e2,ht,Fp,h1⟩
   ·rw[e1]at hx;rw[e2]at hy
    have hx:=hx.int
    have hy:=hy.int
    cases hs:abC b
    ·rw[hs]at h1
     replace h1:(if k=k' then vb b k m n (λv=>K v [] [])else none)=some r:=h1
     split at h1
     ·rename_i hk;subst hk
      obtain⟨v,u,hK,dC,hVR⟩:=LB (P:=P) (w:=w) (M:=M) (ν:=ν) (t:=t) h1
      exact a6 (qI ho (by rw[hx,hy];exact qk w) (by rw[hx,hy];exact dC)) (hn _ [] [] _ _ _ _ hK (.refl hc.mem) (hVR _))
     ·cases h1
    ·rw[hs]at h1
     replace h1:shK b k m n (λv=>K v [] [])=some r:=h1
     obtain⟨z,hK,dC⟩:=Vd (P:=P) (w:=w) (k':=k') (t:=t) h1
     exact a6 (qI ho (by rw[hx,hy];exact qk w) (by rw[hx,hy];exact dC)) (hn _ [] [] _ _ _ _ hK (.refl hc.mem) (.mkInt _ _))
   ·rw[e2]at hy
    have key:(eqGuard b t x y (a.eval x) (a.eval y)).run P w= .ok () w∧(binOp .eql t (a.eval x) (a.eval y)).run P w= .ok (.bool (pn τ x' z)) w∧(binOp .neq t (a.eval x) (a.eval y)).run P w= .ok (.bool (!pn τ x' z)) w:=by
     by_cases Gs:τ.isAgg=true
     ·simp only[VR]at hx hy
      exact hE.eq t τ ht Fp Gs w M _ _ _ _ b x y hx hy
     ·have hl:=hE.ty t τ ht
      cases τ with
      |int k=>
       rw[hx.int,hy.int]
       refine⟨qk w,?_,?_⟩
       ·simp[binOp,Op.intCmp,pn,kj];rfl
       ·simp[binOp,Op.intCmp,pn,kj];rfl
      |bool=>rw[hx.bool,hy.bool];exact⟨Cn w,run_eql_bool hl.bool _ _,run_neq_bool hl.bool _ _⟩
      |str=>rw[hx.str,hy.str];exact⟨EI w,by rw[N3];simp[pn,Gl],by rw[N4];simp[pn,Gl]⟩
      |slice e=>simp[Ty.comparable]at Fp
      |unit=>simp[Ty.isAgg]at Gs
      |pair _ _=>simp[Ty.isAgg]at Gs
      |arr _ _=>simp[Ty.isAgg]at Gs
    obtain⟨hg,h2,h3⟩:=key
    rcases h1 with⟨rfl,hK⟩|⟨rfl,hK⟩
    ·exact a6 (qI ho hg h2) (hn _ [] [] _ _ _ _ hK (.refl hc.mem) (.vf _))
    ·exact a6 (qI ho hg h3) (hn _ [] [] _ _ _ _ hK (.refl hc.mem) (.vf _))
  ·cases h
 ·cases h
theorem abR(hc:Core c σ a.tmps w M ν){u:UnOp}{t:TypeId}{x:Operand}(ho:o.op= .unOp u t x){K:gL α}
  (h:U0 u (σ.ρ x) (λv=>K v [] [])=some r) (hn:fH c σ a o w M ν K r next):o.wp P a w next Q:=by
 have hx:=hc.ev x
 unfold U0 at h
 split at h
 ·rename_i k n hxe
  rw[hxe]at hx
  refine a6 (xi ho (v:= .int k (k.wrap (0-n))) ?_) (hn _ [] [] _ _ _ _ h (.refl hc.mem) (by rw[Gj];exact .mkInt _ _))
  rw[hx.int];simp[Op.unary,Op.intArith]
 ·rename_i k n hxe
  rw[hxe]at hx
  refine a6 (xi ho (v:= .int k (rQ .xor k (if k.signed then-1 else k.max) n)) ?_) (hn _ [] [] _ _ _ _ h (.refl hc.mem) (.mkInt _ _))
  rw[hx.int,u7];simp[Op.unary,Op.intBits]
 ·rename_i b hxe
  rw[hxe]at hx
  refine a6 (xi ho (v:= .bool (!b)) ?_) (hn _ [] [] _ _ _ _ h (.refl hc.mem) (.vf _))
  rw[hx.bool];simp[Op.unary]
 ·cases h
theorem oU{args:Array Operand}{ts:Array TypeId}{t:TypeId}{x:Operand}{n:Nat}(ho:o.op= .call {callee:= .builtin .len,args,argTypes:=ts})(ha:args.toList=[x])(_ht:ts.toList.head?=some t)
  (hl: ∀ty,(Builtin.len_ ts ty #[a.eval x]).run P w= .ok (goInt n) w):(execOp a.eval o).run P w= .ok (.value (.int .i64 n)) w:=by
 obtain⟨cs,hr⟩:=nW (P:=P) (ρ:=a.eval) ho (w:=w)
 rw[hr]
 have:args.map a.eval= #[a.eval x]:=by apply gZ;simp[ha]
 rw[this]
 simp[builtin,hl,goInt]
theorem abS{ts:Array TypeId}{t ty:TypeId}(ht:ts[0]? =some t)(hu:P.underlying t=some .string)(s:ByteArray):(Builtin.len_ ts ty #[.string s]).run P w= .ok (goInt s.size) w:=by
 simp[Builtin.len_,ht,run_underlying hu]
theorem abT{ts:Array TypeId}{t ty e:TypeId}{n:Nat}(ht:ts[0]? =some t)(hu:P.underlying t=some (.array n e))(v:Value):(Builtin.len_ ts ty #[v]).run P w= .ok (goInt n) w:=by
 simp[Builtin.len_,ht,run_underlying hu]
theorem yx{ts:Array TypeId}{t ty e:TypeId}(ht:ts[0]? =some t)(hu:P.underlying t=some (.slice e))(ad:Option Addr)(n cp:Nat):(Builtin.len_ ts ty #[.slice ad n cp]).run P w= .ok (goInt n) w:=by
 simp[Builtin.len_,ht,run_underlying hu]
theorem ER.GD{e:Ty}{l:List e.den}{v:Value}(h:ER w M v (.own e l)): ∃ad cp,v= .slice ad l.length cp:=by
 simp only[ER]at h
 rcases h with⟨rfl,a,hv⟩|⟨b,cs,t,cap,hv,_⟩
 ·exact⟨a,0,hv⟩
 ·exact⟨_,cap,hv⟩
theorem ER.XK{e:Ty}{l:List e.den}{v:Value}(h:ER w M v (.pq e l)): ∃ad cp,v= .slice ad l.length cp:=by
 simp only[ER]at h
 have h:=h.1
 simp only[Rd,fV,eF]at h
 obtain⟨a,cap,hv,_⟩:=h
 exact⟨a,cap,hv⟩
theorem ajY(hE:EnvTy P E)(hc:Core c σ a.tmps w M ν){args:Array Operand}{ts:Array TypeId}{x:Operand}(ho:o.op= .call {callee:= .builtin .len,args,argTypes:=ts})(ha:args.toList=[x]){K:gL α}{τ:Ty}
  (ht:(ts.toList.head?).bind E.ty=some τ) (h:NO τ (σ.ρ x) σ.H K=some r) (hn:fH c σ a o w M ν K r next):o.wp P a w next Q:=by
 obtain⟨t,wL,TD⟩:=ud.1 ht
 have ht3:ts[0]? =some t:=by rw[←wL,←iA,List.head?_eq_getElem?]
 have hl:=hE.ty t τ TD
 have hv:=hc.ev x
 unfold NO at h
 split at h
 ·rename_i e e' l hx
  obtain⟨_,hu,_⟩:=hl.slice
  rw[hx]at hv
  simp only[VR]at hv
  have hv:=V.slice.1 hv
  simp only[Rd,fV,eF]at hv
  obtain⟨ad,cap,hv,_⟩:=hv
  refine a6 (oU ho ha wL (n:=ℓ l) λty=>by rw[hv];exact yx ht3 hu _ _ _) (hn _ [] [] _ _ _ _ h (.refl hc.mem) (.mkInt _ _))
 ·rename_i n e n' e' l hx
  obtain⟨_,hu,_⟩:=hl.arr
  refine a6 (oU ho ha wL (n:=n) λty=>abT ht3 hu _) (hn _ [] [] _ _ _ _ h (.refl hc.mem) (.mkInt _ _))
 ·rename_i s hx
  rw[hx]at hv
  refine a6 (oU ho ha wL (n:=ByteArray.size s) λty=>by rw[hv.str];exact abS ht3 hl.str _) (hn _ [] [] _ _ _ _ h (.refl hc.mem) (.mkInt _ _))
 ·rename_i e hx
  obtain⟨_,hu,_⟩:=hl.slice
  rw[hx]at hv
  simp only[VR]at hv
  obtain⟨ad,hv⟩:=hv
  refine a6 (oU ho ha wL (n:=0) λty=>by rw[hv];exact yx ht3 hu _ _ _) (hn _ [] [] _ _ _ _ h (.refl hc.mem) (.mkInt _ _))
 ·rename_i e id hx
  obtain⟨_,hu,_⟩:=hl.slice
  rw[hx]at hv
  simp only[VR]at hv
  split at h
  ·rename_i e' l bg
   obtain⟨ad,cap,hh⟩:=(hc.mem.jO id _ bg).GD
   refine a6 (oU ho ha wL (n:=l.length) λty=>by rw[hv.2,hh];exact yx ht3 hu _ _ _) (hn _ [id] [] _ _ _ _ h (.refl hc.mem) (.mkInt _ _))
  ·rename_i e' l bg
   obtain⟨ad,cap,hh⟩:=(hc.mem.jO id _ bg).XK
   refine a6 (oU ho ha wL (n:=l.length) λty=>by rw[hv.2,hh];exact yx ht3 hu _ _ _) (hn _ [id] [] _ _ _ _ h (.refl hc.mem) (.mkInt _ _))
  ·cases h
 ·cases h
theorem N5{H:Nat→Option bp}(up:Bool): ∀(xs:List bA) (x:bA) (v:Value) (vs:List Value) (K:bA→Option α),VR w M H ν x v→jN w M H ν xs vs→mmK up x xs K=some r→
  ∃x' v',K x'=some r∧(vs.foldlM (if up then Builtin.max2 else Builtin.min2) v).run P w= .ok v' w∧VR w M H ν x' v'
 |[],x,v,[],K,hx,_,h=>⟨x,v,h,by simp,hx⟩
 |[],_,_,_::_,_,_,hs,_=>by simp[jN]at hs
 |_::_,_,_,[],_,_,hs,_=>by simp[jN]at hs
 |y::xs,x,v,u::vs,K,hx,hs,h=>by
  simp only[jN]at hs
  obtain⟨hy,hs⟩:=hs
  unfold mmK at h
  obtain⟨k,m,e1,h1⟩:=nX h
  obtain⟨k',n,e2,h2⟩:=nX h1
  clear h h1
  split at h2
  ·rename_i hk
   subst hk
   rw[e1]at hx;rw[e2]at hy
   have hx:=hx.int
   have hy:=hy.int
   obtain⟨x',v',hK,dC,hV⟩:=N5 up xs _ (.int k (cond up (mx m n) (mn m n))) vs K (.mkInt _ _) hs h2
   refine⟨x',v',hK,?_,hV⟩
   rw[List.foldlM_cons,Sem.run_bind]
   have:((if up then Builtin.max2 else Builtin.min2) v u).run P w= .ok (.int k (cond up (mx m n) (mn m n))) w:=by
    rw[hx,hy]
    cases up
    ·simp[Builtin.min2,Xz]
    ·simp[Builtin.max2,aid]
   rw[this]
   exact dC
  ·cases h2
theorem ail(hc:Core c σ a.tmps w M ν)(up:Bool){args:Array Operand}{ts:Array TypeId}{x:Operand}{xs:List Operand}(ho:o.op= .call {callee:= .builtin (if up then .max else .min),args,argTypes:=ts})(ha:args.toList=x::xs){K:gL α}
  (h:mmK up (σ.ρ x) (xs.map σ.ρ) (λv=>K v [] [])=some r) (hn:fH c σ a o w M ν K r next):o.wp P a w next Q:=by
 obtain⟨x',v',hK,dC,hV⟩:=N5 (P:=P) up (xs.map σ.ρ) (σ.ρ x) (a.eval x) (xs.map a.eval) _ (hc.ev x) (hc.evs xs) h
 refine a6 ?_ (hn _ [] [] _ _ _ _ hK (.refl hc.mem) hV)
 obtain⟨cs,hr⟩:=nW (P:=P) (ρ:=a.eval) ho (w:=w)
 rw[hr]
 have hm:(args.map a.eval).toList=a.eval x::xs.map a.eval:=by simp[ha]
 cases up
 ·simp only[jL,fG,builtin,Builtin.min_,hm,Sem.run_bind]at dC ⊢
  rw[dC];simp
 ·simp only[g8,builtin,Builtin.max_,hm,Sem.run_bind]at dC ⊢
  rw[dC];simp
theorem Jp{ρ:Operand→Value}{t:TypeId}{x i:Operand}(ho:o.op= .index t x i){k:IntKind}{n:Int}{s:ByteArray}
  (hu:P.underlying t=some .string) (hx:ρ x= .string s) (hi:ρ i= .int k n) (h0:0≤n) (h1:n<(s.size:Int)):
  (execOp ρ o).run P w= .ok (.value (.int .u8 ((s.data.getD n.toNat 0).toNat:Int))) w:=by
 have eT:n.toNat<s.size:=ω
 have hs:s[n.toNat]? =some (s[n.toNat]'eT):=by simp[eT]
 have he:s[n.toNat]'eT=s.data.getD n.toNat 0:=by
  have xn:n.toNat<s.data.size:=eT
  rw[Array.getD,dif_pos xn];rfl
 simp[execOp,ho,hx,hi,Instr.index,asIntOf,run_underlying hu,h0,hs,he]
theorem XL(hE:EnvTy P E)(hc:Core c σ a.tmps w M ν){t:TypeId}{x i:Operand}(ho:o.op= .index t x i){K:gL α}{τ:Ty}(ht:E.ty t=some τ)
  (h:w9 τ (σ.ρ x) (σ.ρ i) (λv=>K v [] [])=some r) (hn:fH c σ a o w M ν K r next):o.wp P a w next Q:=by
 unfold w9 at h
 obtain⟨k,n,hi,h2⟩:=nX h
 clear h
 have h:=h2
 clear h2
 have TE:=hc.ev i
 rw[hi]at TE
 have TE:=TE.int
 have hv:=hc.ev x
 have y6:=hE.ty t τ ht
 split at h
 ·rename_i len e υ l hx
  obtain⟨e',Ry,hle⟩:=y6.arr
  obtain⟨e1,h⟩:=bw h
  subst e1
  obtain⟨kC,h⟩:=cz h
  obtain⟨h0,h1⟩:=vg kC
  rw[hx]at hv
  simp only[VR]at hv
  obtain⟨cs,hu,hr⟩:=hv.agg rfl
  have eQ:=hr.idx (i:=n.toNat) ω
  refine a6 (Jn ho Ry hle hu TE h0 h1 eQ) (hn _ [] [] _ _ _ _ h (.refl hc.mem) ?_)
  simp only[VR]
  exact V.cg eQ
 ·rename_i s hx
  obtain⟨kC,h⟩:=cz h
  obtain⟨h0,h1⟩:=vg kC
  rw[hx]at hv
  refine a6 (Jp ho y6.str hv.str TE h0 h1) (hn _ [] [] _ _ _ _ h (.refl hc.mem) (.mkInt _ _))
 ·cases h
theorem mD(τ:Ty):τ.cD.length=τ.size:=(Rd.zero default (λ_=>False) τ).length
theorem EK{z:Array Value}{n i s:Nat}(hz:z.size=s)(hi:i*s+s≤n):((madeCells z n).toList.drop (i*s)).take s=z.toList:=by
 apply Ay
 intro j
 rw[mR]
 split
 ·rename_i hj
  rw[mS,iA,iA]
  simp only[madeCells,Array.getElem?_map]
  rw[Array.getElem?_range,aj ω]
  simp only[Option.map_some]
  have:(i*s+j)%z.size=j:=by rw[hz,Gg,Nat.mul_add_mod,Nat.mod_eq_of_lt hj]
  rw[this,Nu ω,getElem!_pos z j ω]
 ·rename_i hj
  rw[iA,NA ω]
theorem pv.made(w:World)(M:Nat→Prop)(e:Ty){n l:Nat}(h:l*e.size≤n):pv w M e (madeCells (cg e e.cD).cells n).toList (List.replicate l e.zero):=by
 intro i hi
 rw[c4]at hi
 have:=ew (s:=e.size) hi
 rw[EK (by rw[←bn,fI,mD]) ω,fI,NB]
 exact Rd.zero w M e
theorem Cu{ρ:Operand→Value}{t:TypeId}{x y:Operand}(ho:o.op= .makeSlice t x y){v:Value}{w':World}(h:(Instr.makeSlice t (ρ x) (ρ y)).run P w= .ok v w'):(execOp ρ o).run P w= .ok (.value v) w':=by
 simp[execOp,ho,h]
theorem LC(hE:EnvTy P E)(hc:Core c σ a.tmps w M ν){t:TypeId}{x y:Operand}(ho:o.op= .makeSlice t x y){K:gL α}{e:Ty}(ht:E.ty t=some (.slice e)){id:Nat}
  (h:wz (σ.ρ x) (λ_ l=>wz (σ.ρ y) λ_ c=>cond (kU l c)
   (rS σ.H id (.own e []) (K (.ref id) [id] [(id,some (.own e (List.replicate l.toNat e.zero)))])) none)=some r) (hn:fH c σ a o w M ν K r next):o.wp P a w next Q:=by
 obtain⟨k,l,hx,h1⟩:=nX h
 obtain⟨k',n,hy,h2⟩:=nX h1
 clear h h1
 obtain⟨hk,h⟩:=cz h2
 obtain⟨bg,h⟩:=mC h
 rw[J1]at hk
 obtain⟨h0,h1,h3⟩:=bt hk
 simp only[AN]at h3
 obtain⟨e',hu,hle⟩:=(hE.ty t _ ht).slice
 obtain⟨i,hi,hs,hz,hb⟩:=hle.base
 have LD:=hc.ev x
 have A2:=hc.ev y
 rw[hx]at LD;rw[hy]at A2
 have ajZ:(i.bytes:Int)*n≤281474976710656:=by
  have h4:(i.bytes:Int)≤2048:=ω
  have:(i.bytes:Int)*n≤2048*n:=Al h4 ω
  omega
 have dC:=run_make (P:=P) w t e' i _ hu hi hz k k' l n h0 h1 ajZ ω
 have hlen:(List.replicate l.toNat e.zero).length=l.toNat:=c4
 have gi:=Tr.row hc.mem bg e' (e:=e) (cs:=madeCells (cg e e.cD).cells (n.toNat*i.size)) (l:=List.replicate l.toNat e.zero) (cap:=n.toNat) (by rw[hlen];omega) (by simp[maxLen];omega)
  (by rw[size_madeCells,hs]) (pv.made w M e (ui ω ω))
 refine a6 (Cu ho (by rw[LD.int,A2.int];exact dC)) (hn _ _ _ _ _ _ _ h gi ?_)
 simp only[VR]
 exact⟨by show ca σ.H id _ id≠none;rw[ay];simp,by simp[updν]⟩
theorem XM(off:Nat)(new cs:Array Value)(h:off+new.size≤cs.size):
  (new.zipIdx.foldl (λcs (x:Value×Nat)=>cs.setIfInBounds (off+x.2) x.1) cs)=(eN cs.toList off new.toList).toArray:=by
 have h1:new.zipIdx.foldl (λcs (x:Value×Nat)=>cs.setIfInBounds (off+x.2) x.1) cs=(new.toList.zipIdx 0).foldl (λcs (x:Value×Nat)=>cs.setIfInBounds (off+x.2) x.1) cs:=by
  rw[←Array.foldl_toList,Array.toList_zipIdx]
 rw[h1]
 obtain⟨hs,hk⟩:=Great.foldl_set off new.toList 0 cs
 apply Array.ext_getElem?
 intro k
 rw[hk k,←iA (xs:=cs)]
 have hl:new.toList.length=new.size:=bn
 have hc:cs.toList.length=cs.size:=bn
 unfold eN
 rw[FV]
 by_cases h2:k<off
 ·rw[ah ω,bE,tc (by rw[bV];omega),List.getElem?_take_of_lt h2]
 ·by_cases h3:k<off+new.size
  ·rw[aj ω,tc (by rw[aS,bV];omega),pj (by rw[bV];omega),bV]
   congr 1
   omega
  ·rw[ah ω,pj (by rw[aS,bV];omega),aS,bV,mS]
   congr 1
   omega
theorem yz{place:Nat→Option (Nat×Nat)}{cs:Array Value}{i:Nat}{v:Value}{rest:List (Nat×Value)}{off s:Nat}(hp:place i=some (off,s))(hs:v.cells.size=s)(h:off+s≤cs.size):
  Instr.fill place cs ((i,v)::rest)=Instr.fill place (eN cs.toList off v.cells.toList).toArray rest:=by
 have h1: ¬(decide (v.cells.size≠s)||decide (off+v.cells.size>cs.size))=true:=by simp[hs];omega
 conv=>lhs;unfold Instr.fill
 rw[hp]
 simp only
 rw[ah h1]
 congr 1
 exact XM off v.cells cs ω
theorem rZ(a:Act)(ps:Array (Nat×Operand)):(ps.map λ(i,x)=>(i,a.eval x)).toList=ps.toList.map λp=>(p.1,a.eval p.2):=by
 rw[Array.toList_map]
def PR(w:World)(M:Nat→Prop)(H:Nat→Option bp)(ν:Nat→Value):List (Nat×bA)→List (Nat×Value)→Prop
 |[],[]=>True
 |p::ps,q::qs=>p.1=q.1∧VR w M H ν p.2 q.2∧PR w M H ν ps qs
 |_,_=>False
theorem PR.bZ{w':World}{M':Nat→Prop}{H H':Nat→Option bp}{ν':Nat→Value}(k:fO w M w' M')(g:tS H ν H' ν'): ∀{ps:List (Nat×bA)} {qs:List (Nat×Value)},PR w M H ν ps qs→PR w' M' H' ν' ps qs
 |[],[],_=>trivial
 |_::_,_::_,h=>⟨h.1,h.2.1.bZ k g,PR.bZ k g h.2.2⟩
 |[],_::_,h=>h.elim
 |_::_,[],h=>h.elim
theorem Core.pr(hc:Core c σ a.tmps w M ν): ∀ps:List (Nat×Operand),PR w M σ.H ν (ps.map λp=>(p.1,σ.ρ p.2)) (ps.map λp=>(p.1,a.eval p.2))
 |[]=>trivial
 |p::ps=>⟨rfl,hc.ev p.2,hc.pr ps⟩
theorem DJ{e:Ty}{n:Nat}{H:Nat→Option bp}: ∀(ps:List (Nat×bA)) (qs:List (Nat×Value)) (H1:Nat→Option bp) (M:Nat→Prop) (l:List e.den) (cs:Array Value) (rd:List Nat) (ups:jr) (K:List e.den→List Nat→jr→Option α),
  Fz H H1→Mem c H1 w M ν→PR w M H1 ν ps qs→l.length=n→cs.size=n*e.size→pv w M e cs.toList l→H1=cP H ups→w5 e H n ps l rd ups K=some r→
  ∃l' yq jt M' cs',K l' yq jt=some r∧Tr c H1 w M ν (cP H jt) w M' ν∧Fz H (cP H jt)∧l'.length=n∧cs'.size=n*e.size∧pv w M' e cs'.toList l'∧
   Instr.fill (λi=>some (i*e.size,e.size)) cs qs=some cs':=by
 intro ps
 induction ps with
 |nil=>
  intro qs H1 M l cs rd ups K hz hm hp hl hs hr hH h
  cases qs with
  |cons _ _=>exact hp.elim
  |nil=>exact⟨l,rd,ups,M,cs,h,hH▸Tr.refl hm,hH▸hz,hl,hs,hr,rfl⟩
 |cons p ps ih=>
  intro qs H1 M l cs rd ups K hz hm hp hl hs hr hH h
  cases qs with
  |nil=>exact hp.elim
  |cons q qs=>
   obtain⟨h1,h2,h3⟩:=hp
   unfold w5 at h
   obtain⟨hb,h⟩:=cz h
   have eT:p.1<n:=by simpa [AK]using hb
   obtain⟨y,XN,Cv,M1,h,gi,hV,zi,_⟩:=la hz hm h2 h
   have hlen:(q.2.cells).size=e.size:=by rw[←bn];exact hV.cells.length
   have hmul:=ew (s:=e.size) eT
   have rY:=pv.set (hr.bZ gi.bZ) (by rw[hl,bn,hs];exact aH _) (i:=p.1) ω hV.cells
   obtain⟨l',yq,jt,M',cs',hK,RT,Ad,I1,TF,eQ,hf⟩:=ih qs (cP H1 Cv) M1 (l.set p.1 y) (eN cs.toList (p.1*e.size) q.2.cells.toList).toArray (XN++rd) (ups++Cv) K zi gi.mem (h3.bZ gi.bZ gi.goes)
    (by rw[bP];exact hl) (by rw[jg,eH (by rw[bn,bn];omega),bn,hs]) rY (by rw[eY,hH]) h
   refine⟨l',yq,jt,M',cs',hK,gi.trans RT,Ad,I1,TF,eQ,?_⟩
   rw[yz (off:=p.1*e.size) (s:=e.size) (by rw[h1]) hlen ω]
   exact hf
theorem LF{τ:Ty}{H:Nat→Option bp}{place:Nat→Option (Nat×Nat)}(Cw: ∀(x:τ.den) n υ y o,DC τ x n υ y o→place n=some (o,υ.size)):
  ∀(ps:List (Nat×bA)) (qs:List (Nat×Value)) (H1:Nat→Option bp) (M:Nat→Prop) (x:τ.den) (cs:Array Value) (rd:List Nat) (ups:jr) (K:τ.den→List Nat→jr→Option α),
  Fz H H1→Mem c H1 w M ν→PR w M H1 ν ps qs→Rd w M τ cs.toList x→H1=cP H ups→mg τ H ps x rd ups K=some r→
  ∃x' yq jt M' cs',K x' yq jt=some r∧Tr c H1 w M ν (cP H jt) w M' ν∧Fz H (cP H jt)∧Rd w M' τ cs'.toList x'∧Instr.fill place cs qs=some cs'∧
   ∀m υ,yW τ m=some υ→(ps.all λp=> !(Nat.beq p.1 m))=true→(cs'.toList.drop (gq τ m)).take υ.size=(cs.toList.drop (gq τ m)).take υ.size:=by
 intro ps
 induction ps with
 |nil=>
  intro qs H1 M x cs rd ups K hz hm hp hr hH h
  cases qs with
  |cons _ _=>exact hp.elim
  |nil=>exact⟨x,rd,ups,M,cs,h,hH▸Tr.refl hm,hH▸hz,hr,rfl,λ_ _ _ _=>rfl⟩
 |cons p ps ih=>
  intro qs H1 M x cs rd ups K hz hm hp hr hH h
  cases qs with
  |nil=>exact hp.elim
  |cons q qs=>
   obtain⟨h1,h2,h3⟩:=hp
   unfold mg at h
   obtain⟨υ,y0,of,hf,h⟩:=pM h
   obtain⟨y,XN,Cv,M1,h,gi,hV,zi,_⟩:=la hz hm h2 h
   obtain⟨υ',y',o',k',zx,jv,A3⟩:=ld h
   obtain⟨rfl,rfl⟩:=zx.eq
   obtain⟨rfl,rfl⟩:=hf.eq
   obtain⟨e1,EL⟩:=bw jv
   obtain⟨x',oO,_,kB⟩:=A3 _ _ EL
   have hlen:(q.2.cells).size=(sV τ p.1).size:=by rw[←bn];exact hV.cells.length
   have hb:=hf.bound
   have Fo:=hr.length
   rw[bn]at Fo
   obtain⟨x2,yq,jt,M',cs',hK,RT,Ad,eQ,I5,RU⟩:=ih qs (cP H1 Cv) M1 x' (eN cs.toList (gq τ p.1) q.2.cells.toList).toArray (XN++rd) (ups++Cv) K zi gi.mem (h3.bZ gi.bZ gi.goes)
    (kB w M1 _ _ (hr.bZ gi.bZ) hV.cells) (by rw[eY,hH]) oO
   refine⟨x2,yq,jt,M',cs',hK,gi.trans RT,Ad,eQ,?_,λm υ jv iv=> ?_⟩
   ·rw[yz (off:=gq τ p.1) (s:=(sV τ p.1).size) (by rw[←h1];exact Cw _ _ _ _ _ hf) hlen ω]
    exact I5
   ·rw[kR,bM]at iv
    rw[RU m υ jv iv.2]
    obtain⟨y2,o2,hf2⟩:=kZ jv x
    obtain⟨e3,e4⟩:=hf2.eq
    subst e3 e4
    have ko:p.1≠m:=λe=>by have:=iv.1;rw[e,pJ]at this;cases this
    have hap:=hf.apart hf2 ko
    have uX:=hf2.bound
    show((eN cs.toList (gq τ p.1) q.2.cells.toList).drop _).take _=_
    rw[Fk (by rw[bn];omega) (by rw[bn,bn];omega)]
theorem gA.places: ∀(τ:Ty) (fs:Array Field) (n off:Nat),gA P τ (.inr (fs,n,off))→
  ∃ps,(fs.toList.drop n).mapM (λf=>(P.info? f.type).map λi=>(f.offset,i.size))=some ps∧ ∀(x:τ.den) m υ y o,DC τ x m υ y o→ps[m]? =some (off+o,υ.size)
 | .unit,fs,n,off,h=>by
  simp only[gA]at h
  refine⟨[],?_,λx m υ y o hf=>by cases hf⟩
  rw[jf (by rw[bn];omega)];rfl
 | .pair t b,fs,n,off,h=>by
  simp only[gA]at h
  obtain⟨f,hf,ho,ha,hb⟩:=h
  obtain⟨ps,I6,I5⟩:=gA.places b fs (n+1) (off+t.size) hb
  obtain⟨i,hi,hs,_⟩:=(show kX P t f.type from ha).base
  have eT:n<fs.toList.length:=by rw[bn];exact(lJ.1 hf).1
  have hfe:fs.toList[n]=f:=by rw[Ar];exact(lJ.1 hf).2
  refine⟨(off,t.size)::ps,?_,λx m υ y o zx=> ?_⟩
  ·rw[qF eT,AE,I6,hfe,hi]
   simp[ho,hs]
  ·cases zx with
   |here=>simp
   |there _ h'=>simp[I5 _ _ _ _ _ h',pI]
 | .int _,_,_,_,h| .bool,_,_,_,h| .str,_,_,_,h| .slice _,_,_,_,h| .arr _ _,_,_,_,h=>by simp[gA]at h
theorem kX.places{τ:Ty}{t:TypeId}(h:kX P τ t)(ha:τ.isAgg=true)(hn: ∀n e,τ≠ .arr n e):
  ∃fs ps,P.underlying t=some (.struct fs)∧fs.toList.mapM (λf=>(P.info? f.type).map λi=>(f.offset,i.size))=some ps∧ ∀(x:τ.den) m υ y o,DC τ x m υ y o→ps[m]? =some (o,υ.size):=by
 cases τ with
 |unit=>
  simp only[kX,gA]at h
  obtain⟨_,fs,hu,hs⟩:=h
  refine⟨fs,[],hu,?_,λx m υ y o hf=>by cases hf⟩
  have:fs.toList=[]:=uZ (by rw[bn];exact hs)
  rw[this];rfl
 |pair t' b=>
  simp only[kX,gA]at h
  obtain⟨_,fs,f,hu,hf,ho,ha',hb⟩:=h
  have hg:gA P (.pair t' b) (.inr (fs,0,0)):=by
   simp only[gA]
   exact⟨f,hf,ho,ha',by simpa using hb⟩
  obtain⟨ps,I6,I5⟩:=gA.places _ fs 0 0 hg
  exact⟨fs,ps,hu,I6,λx m υ y o zx=>by simpa using I5 x m υ y o zx⟩
 |arr n e=>exact absurd rfl (hn n e)
 |int _=>simp[Ty.isAgg]at ha
 |bool=>simp[Ty.isAgg]at ha
 |str=>simp[Ty.isAgg]at ha
 |slice _=>simp[Ty.isAgg]at ha
theorem vj{ρ:Operand→Value}{t:TypeId}{ps:Array (Nat×Operand)}(ho:o.op= .build t ps){v:Value}(h:(Instr.build t (ps.map λ(i,x)=>(i,ρ x))).run P w= .ok v w):(execOp ρ o).run P w= .ok (.value v) w:=by
 simp[execOp,ho,h]
theorem A6{ρ:Operand→Value}{t:TypeId}{n:Nat}{ps:Array (Nat×Operand)}(ho:o.op= .buildSlice t n ps){v:Value}{w':World}(h:(Instr.buildSlice t n (ps.map λ(i,x)=>(i,ρ x))).run P w= .ok v w'):(execOp ρ o).run P w= .ok (.value v) w':=by
 simp[execOp,ho,h]
theorem VR.TG{H:Nat→Option bp}{τ:Ty}(ha:τ.isAgg=true){cs:Array Value}{x:τ.den}(h:Rd w M τ cs.toList x):VR w M H ν (.val τ x) (.agg cs):=by
 simp only[VR,V];rw[aj ha];exact⟨cs,rfl,h⟩
theorem LG(hE:EnvTy P E)(hc:Core c σ a.tmps w M ν){t:TypeId}{ps:Array (Nat×Operand)}(ho:o.op= .build t ps){K:gL α}{n:Nat}{e:Ty}(ht:E.ty t=some (.arr n e))
  (h:w5 e σ.H n (partsOf σ.ρ ps) (List.replicate n e.zero) [] [] (λl rd ups=>K (.val (.arr n e) l) rd ups)=some r) (hn:fH c σ a o w M ν K r next):o.wp P a w next Q:=by
 have hl:=hE.ty t _ ht
 obtain⟨e',hu,hle⟩:=hl.arr
 obtain⟨i,hi,hs,hz,_⟩:=hl.base
 obtain⟨ie,hie,hes,_⟩:=hle.base
 have XO:=Rd.arr.1 (Rd.zero w M (.arr n e))
 obtain⟨l',yq,jt,M',cs',hK,gi,Ad,I1,TF,eQ,hf⟩:=DJ (partsOf σ.ρ ps) (ps.toList.map λ(p:Nat×Operand)=>(p.1,a.eval p.2)) σ.H M (List.replicate n e.zero) (Ty.cD (.arr n e)).toArray [] [] _ (.refl _) hc.mem (hc.pr ps.toList)
  (by rw[c4]) (by rw[jg];exact XO.2.1) XO.2.2 rfl h
 refine a6 (vj ho (run_build w t _ cs' ?_)) (hn _ _ _ _ _ _ _ hK gi (VR.TG rfl (Rd.arr.2 ⟨I1,by rw[bn];exact TF,eQ⟩)))
 unfold Program.built
 rw[hi,hu]
 simp only[hz,hie,hes,rZ]
 exact hf
theorem EM(hE:EnvTy P E)(hc:Core c σ a.tmps w M ν){t:TypeId}{ps:Array (Nat×Operand)}(ho:o.op= .build t ps){K:gL α}{τ:Ty}(ht:E.ty t=some τ)(XP: ∀n e,τ≠ .arr n e)
  (h:cond τ.isAgg (mg τ σ.H (partsOf σ.ρ ps) τ.zero [] [] (λl rd ups=>K (abD E (partsOf σ.ρ ps) τ l) rd ups)) none=some r) (hn:fH c σ a o w M ν K r next):o.wp P a w next Q:=by
 obtain⟨Gs,h⟩:=cz h
 have hl:=hE.ty t _ ht
 obtain⟨fs,pl,hu,I6,Cw⟩:=hl.places Gs XP
 obtain⟨i,hi,hs,hz,_⟩:=hl.base
 obtain⟨l',yq,jt,M',cs',hK,gi,Ad,eQ,hf,RU⟩:=LF (place:=(pl.toArray[·]?)) (λx n υ y o hf=>by simpa using Cw x n υ y o hf) (partsOf σ.ρ ps) (ps.toList.map λ(p:Nat×Operand)=>(p.1,a.eval p.2)) σ.H M τ.zero τ.cD.toArray [] [] _ (.refl _) hc.mem (hc.pr ps.toList)
  (Rd.zero w M τ) rfl h
 have hvr:VR w M' (cP σ.H jt) ν (abD E (partsOf σ.ρ ps) τ l') (.agg cs'):=by
  unfold abD
  split
  ·rename_i n e qA
   cases iv:(partsOf σ.ρ ps).all λp=> !(Nat.beq p.1 n)
   ·exact VR.TG Gs eQ
   ·have hq:=Lx qA
    show VR w M' (cP σ.H jt) ν (.Lq τ l' n) (.agg cs')
    have hv:=VR.TG (H:=cP σ.H jt) (ν:=ν) Gs eQ
    simp only[VR]at hv ⊢
    refine⟨hv,cs',none,rfl,?_⟩
    have Vc:yW τ n=some (.slice e):=by
     unfold fy at hq
     split at hq
     ·rename_i a ha
      rw[ha]
      have:=bt hq
      rw[this]
     ·cases hq
    have h2:=RU n _ Vc iv
    have h3:=Co hq
    simp only[cy,mA]at h3
    have h4:=fv (λl=>l[0]?) h2
    simp only[mR,mS,mA]at h4
    rw[aj (show 0<(Ty.slice e).size from Nat.one_pos),aj (show 0<(Ty.slice e).size from Nat.one_pos)]at h4
    rw[h4];exact h3
  ·exact VR.TG Gs eQ
 refine a6 (vj ho (run_build w t _ cs' ?_)) (hn _ _ _ _ _ _ _ hK gi hvr)
 unfold Program.built
 rw[hi,hu]
 have hzc:(cg τ τ.cD).cells=τ.cD.toArray:=by apply gZ;rw[fI]
 simp only[hz,I6,rZ,hzc]
 exact hf
theorem RV{ps:List (Nat×bA)}{τ:Ty}{n k:Nat}(h:Lr E ps τ=some (n,k)):(∃e,fy [.gG n] τ (.slice e)=true)∧(∀p∈ps,p.1=n→p.2= .ref k)∧ ∃p∈ps,p.1=n:=by
 unfold Lr at h
 split at h
 ·rename_i m e U7 qA
  split at h
  ·rename_i i j hf
   cases h
   refine⟨⟨e,Lx qA⟩,λp hp XQ=> ?_,?_⟩
   ·have:p∈ps.filter λp=>Nat.beq p.1 n:=rG.2 ⟨hp,by rw[XQ];exact pJ n⟩
    rw[hf,cn]at this
    rw[this]
   ·have:(i,bA.ref k)∈ps.filter λp=>Nat.beq p.1 n:=by rw[hf];simp
    obtain⟨h1,h2⟩:=rG.1 this
    exact⟨_,h1,fF h2⟩
  ·cases h
 ·cases h
theorem Jq{τ:Ty}{H:Nat→Option bp}{place:Nat→Option (Nat×Nat)}(Cw: ∀(x:τ.den) n υ y o,DC τ x n υ y o→place n=some (o,υ.size)){n k:Nat}{e:Ty}(hq:yW τ n=some (.slice e))(Cm:(ν k).cells= #[ν k]):
  ∀(ps:List (Nat×bA)) (qs:List (Nat×Value)) (H1:Nat→Option bp) (M:Nat→Prop) (x:τ.den) (cs real:Array Value) (u:Value) (rd:List Nat) (ups:jr) (K:τ.den→List Nat→jr→Option α),
  Fz H H1→Mem c H1 w M ν→PR w M H1 ν ps qs→(∀p∈ps,p.1=n→p.2= .ref k)→Rd w M τ cs.toList x→real.toList=eN cs.toList (gq τ n) [u]→H1=cP H ups→mg τ H (xa n ps) x rd ups K=some r→
  ∃x' yq jt M' u',∃(cs' A7:Array Value),K x' yq jt=some r∧Tr c H1 w M ν (cP H jt) w M' ν∧Fz H (cP H jt)∧Rd w M' τ cs'.toList x'∧Instr.fill place real qs=some A7∧A7.toList=eN cs'.toList (gq τ n) [u']∧
   (u'=ν k∨(u'=u∧ ∀p∈ps,p.1≠n)):=by
 intro ps
 induction ps with
 |nil=>
  intro qs H1 M x cs real u rd ups K hz hm hp iv hr hu hH h
  cases qs with
  |cons _ _=>exact hp.elim
  |nil=>exact⟨x,rd,ups,M,u,cs,real,h,hH▸Tr.refl hm,hH▸hz,hr,rfl,hu,.inr ⟨rfl,λ_ h=>by simp at h⟩⟩
 |cons p ps ih=>
  intro qs H1 M x cs real u rd ups K hz hm hp iv hr hu hH h
  cases qs with
  |nil=>exact hp.elim
  |cons q qs=>
   obtain⟨h1,h2,h3⟩:=hp
   have aim: ∀p∈ps,p.1=n→p.2= .ref k:=λp hp=>iv p (aZ _ hp)
   obtain⟨yn,on,hfn⟩:=kZ hq x
   have hbn:=hfn.bound
   have hon:=hfn.eq.2
   subst hon
   rw[show(Ty.slice e).size=1 from rfl]at hbn
   have Fo:=hr.length
   rw[bn]at Fo
   have hrs:real.size=cs.size:=by
    have h0:gq τ n+[u].length≤cs.toList.length:=by rw[bn];exact ct hbn (Nat.le_of_eq Fo.symm)
    rw[←bn,hu,eH h0,bn]
   by_cases XQ:p.1=n
   ·
    have Jr:=iv p bs XQ
    have hb:Nat.beq p.1 n=true:=by rw[XQ];exact pJ n
    have h:mg τ H ((p.1,bA.emp)::xa n ps) x rd ups K=some r:=by
     have e1:xa n (p::ps)=(p.1,bA.emp)::xa n ps:=by simp[xa,hb]
     rw[e1]at h;exact h
    unfold mg at h
    obtain⟨υ,y0,of,hf,h⟩:=pM h
    have hve:VR w M H1 ν .emp (.slice none 0 0):=by simp only[VR];exact⟨none,rfl⟩
    obtain⟨y,XN,Cv,M1,h,gi,hV,zi,_⟩:=la hz hm hve h
    obtain⟨υ',y',o',k',zx,jv,A3⟩:=ld h
    obtain⟨rfl,rfl⟩:=zx.eq
    obtain⟨rfl,rfl⟩:=hf.eq
    obtain⟨e1,EL⟩:=bw jv
    obtain⟨x',oO,_,kB⟩:=A3 _ _ EL
    have qB:(sV τ p.1).size=1:=by
     have h5:=hfn.eq.1
     rw[XQ,←h5];rfl
    rw[Jr]at h2
    simp only[VR]at h2
    have XR:=kB w M1 _ _ (hr.bZ gi.bZ) hV.cells
    have hcn:(Value.slice none 0 0).cells.toList=[.slice none 0 0]:=rfl
    rw[hcn]at XR
    obtain⟨x2,yq,jt,M',u',cs',A7,hK,RT,Ad,eQ,I5,Vf,hor⟩:=ih qs (cP H1 Cv) M1 x' (eN cs.toList (gq τ p.1) [.slice none 0 0]).toArray (eN real.toList (gq τ n) [ν k]).toArray (ν k) (XN++rd) (ups++Cv) K zi gi.mem (h3.bZ gi.bZ gi.goes) aim
     XR (by
      show eN real.toList (gq τ n) [ν k]=eN (eN cs.toList (gq τ p.1) [.slice none 0 0]) (gq τ n) [ν k]
      rw[hu,XQ,uA (by rw[bn];omega),uA (by rw[bn];omega)]) (by rw[eY,hH]) oO
    refine⟨x2,yq,jt,M',u',cs',A7,hK,gi.trans RT,Ad,eQ,?_,Vf,.inl (hor.elim id λh=>h.1)⟩
    have hpq:place q.1=some (gq τ n,1):=by rw[←h1,XQ];exact Cw _ _ _ _ _ hfn
    rw[yz (off:=gq τ n) (s:=1) hpq (by rw[h2.2,Cm];rfl) ω,h2.2,Cm]
    exact I5
   ·have hb:Nat.beq p.1 n=false:=by
     cases hb:Nat.beq p.1 n
     ·rfl
     ·exact absurd (fF hb) XQ
    have h:mg τ H (p::xa n ps) x rd ups K=some r:=by
     have e1:xa n (p::ps)=p::xa n ps:=by simp[xa,hb]
     rw[e1]at h;exact h
    unfold mg at h
    obtain⟨υ,y0,of,hf,h⟩:=pM h
    obtain⟨y,XN,Cv,M1,h,gi,hV,zi,_⟩:=la hz hm h2 h
    obtain⟨υ',y',o',k',zx,jv,A3⟩:=ld h
    obtain⟨rfl,rfl⟩:=zx.eq
    obtain⟨rfl,rfl⟩:=hf.eq
    obtain⟨e1,EL⟩:=bw jv
    obtain⟨x',oO,_,kB⟩:=A3 _ _ EL
    have hlen:(q.2.cells).size=(sV τ p.1).size:=by rw[←bn];exact hV.cells.length
    have hbf:=hf.bound
    have hap:=hf.apart hfn XQ
    rw[show(Ty.slice e).size=1 from rfl]at hap
    obtain⟨x2,yq,jt,M',u',cs',A7,hK,RT,Ad,eQ,I5,Vf,hor⟩:=ih qs (cP H1 Cv) M1 x' (eN cs.toList (gq τ p.1) q.2.cells.toList).toArray (eN real.toList (gq τ p.1) q.2.cells.toList).toArray u (XN++rd) (ups++Cv) K zi gi.mem (h3.bZ gi.bZ gi.goes) aim
     (kB w M1 _ _ (hr.bZ gi.bZ) hV.cells) (by
      show eN real.toList (gq τ p.1) q.2.cells.toList=eN (eN cs.toList (gq τ p.1) q.2.cells.toList) (gq τ n) [u]
      rw[hu]
      have hlu:[u].length=1:=rfl
      have TH:q.2.cells.toList.length=(sV τ p.1).size:=by rw[bn];exact hlen
      exact NZ (a:=[u]) (b:=q.2.cells.toList) (by rw[hlu,TH];omega) (by rw[hlu,bn];omega) (by rw[TH,bn];omega)) (by rw[eY,hH]) oO
    refine⟨x2,yq,jt,M',u',cs',A7,hK,gi.trans RT,Ad,eQ,?_,Vf,hor.imp id λh=>⟨h.1,λp' Rx=>(a8.1 Rx).elim (λe=>e▸XQ) (h.2 p')⟩⟩
    rw[yz (off:=gq τ p.1) (s:=(sV τ p.1).size) (by rw[←h1];exact Cw _ _ _ _ _ hf) hlen ω]
    exact I5
theorem N6(hE:EnvTy P E)(hc:Core c σ a.tmps w M ν){t:TypeId}{ps:Array (Nat×Operand)}(ho:o.op= .build t ps){K:gL α}{τ:Ty}(ht:E.ty t=some τ)(XP: ∀n e,τ≠ .arr n e){n k:Nat}(hs:Lr E (partsOf σ.ρ ps) τ=some (n,k))
  (h:(match σ.H k with
   |some (.own _ _)=>cond τ.isAgg (mg τ σ.H (xa n (partsOf σ.ρ ps)) τ.zero [] [] λx rd ups=>K (.Jh τ x n k) (k::rd) ups) none
   |_=>none)=some r) (hn:fH c σ a o w M ν K r next):o.wp P a w next Q:=by
 obtain⟨⟨e,hq⟩,iv,p0,hp0,au2⟩:=RV hs
 split at h
 ·rename_i e' l hk
  obtain⟨Gs,h⟩:=cz h
  have Vc:yW τ n=some (.slice e):=by
   unfold fy at hq
   split at hq
   ·rename_i a ha
    rw[ha]
    rw[show a= .slice e from bt hq]
   ·cases hq
  have Cm:(ν k).cells= #[ν k]:=by
   have:=hc.mem.jO k _ hk
   simp only[ER]at this
   rcases this with⟨_,ad,hv⟩|⟨b,cs,t,cap,hv,_⟩<;>rw[hv]<;>rfl
  have hl:=hE.ty t _ ht
  obtain⟨fs,pl,hu,I6,Cw⟩:=hl.places Gs XP
  obtain⟨i,hi,qB,hz,_⟩:=hl.base
  have RA:τ.cD[gq τ n]? =some (.slice none 0 0):=by simpa [cy]using Co hq
  obtain⟨x',yq,jt,M',u',cs',A7,hK,gi,Ad,eQ,hf,Vf,hor⟩:=Jq (place:=(pl.toArray[·]?)) (λx n υ y o hf=>by simpa using Cw x n υ y o hf) Vc Cm (partsOf σ.ρ ps) (ps.toList.map λ(p:Nat×Operand)=>(p.1,a.eval p.2)) σ.H M τ.zero τ.cD.toArray τ.cD.toArray (.slice none 0 0) [] [] _ (.refl _) hc.mem (hc.pr ps.toList) iv
   (Rd.zero w M τ) (xd RA).symm rfl h
  have hu2:u'=ν k:=hor.elim id λh=>absurd au2 (h.2 p0 hp0)
  subst hu2
  refine a6 (vj ho (run_build w t _ A7 ?_)) (hn _ _ _ _ _ _ _ hK gi ?_)
  ·unfold Program.built
   rw[hi,hu]
   have hzc:(cg τ τ.cD).cells=τ.cD.toArray:=by apply gZ;rw[fI]
   simp only[hz,I6,rZ,hzc]
   exact hf
  ·simp only[VR]
   refine⟨A7,cs'.toList,rfl,eQ,Vf,?_,rn hq⟩
   obtain⟨e1,Gy,_⟩:=gi.goes.jO k _ hk
   rw[Gy];simp
 ·cases h
theorem Js(hE:EnvTy P E)(hc:Core c σ a.tmps w M ν){t:TypeId}{n:Nat}{ps:Array (Nat×Operand)}(ho:o.op= .buildSlice t n ps){K:gL α}{e:Ty}(ht:E.ty t=some (.slice e)){id:Nat}
  (h:cond (Nat.ble (n*(e.size+1)) 16777216) (rS σ.H id (.own e []) (w5 e σ.H n (partsOf σ.ρ ps) (List.replicate n e.zero) [] [] λl rd ups=>K (.ref id) (id::rd) (ups++[(id,some (.own e l))]))) none=some r)
  (hn:fH c σ a o w M ν K r next):o.wp P a w next Q:=by
 obtain⟨hb,h⟩:=cz h
 obtain⟨bg,h⟩:=mC h
 have hb:=FW hb
 rw[Nat.mul_add,Nat.mul_one]at hb
 obtain⟨e',hu,hle⟩:=(hE.ty t _ ht).slice
 obtain⟨ie,hie,hes,hz,_⟩:=hle.base
 obtain⟨l',yq,jt,M',cs',hK,gi,Ad,I1,TF,eQ,hf⟩:=DJ (partsOf σ.ρ ps) (ps.toList.map λ(p:Nat×Operand)=>(p.1,a.eval p.2)) σ.H M (List.replicate n e.zero) (madeCells (cg e e.cD).cells (n*e.size)) [] [] _ (.refl _) hc.mem (hc.pr ps.toList)
  (by rw[c4]) (size_madeCells _ _) (pv.made w M e (aH _)) rfl h
 have ajN:cP σ.H jt id=none:=Ad.none bg
 have xj:=gi.trans (Tr.row gi.mem ajN e' (e:=e) (cs:=cs') (l:=l') (cap:=n) ω (by simp[maxLen];omega) TF eQ)
 have dC:(Instr.buildSlice t n (ps.map λ(i,x)=>(i,a.eval x))).run P w= .ok (.slice (some ⟨w.heap.size,0,none⟩) n n) (w.alloc (.cells cs' e')):=by
  by_cases h0:n*e.size=0
  ·rw[h0]at hf
   have hm0:madeCells (cg e e.cD).cells 0=(Array.range 0).map λi:Nat=>(#[]:Array Value)[i%0]! :=by simp[madeCells]
   rw[hm0]at hf
   rw[←rZ]at hf
   simp[Instr.buildSlice,run_underlying hu,Go.sizeOf,typeInfo,hie,hes,h0,newRow]at hf ⊢
   simp[hf]
  ·refine run_buildSlice w t e' n _ cs' ie _ hu hie hz (by rw[hes];omega) (by rw[hes];exact h0) ?_
   rw[hes,rZ]
   exact hf
 refine a6 (A6 ho dC) (hn _ _ _ _ _ (λb=>M' b∨b=w.heap.size) (updν ν id (.slice (some ⟨w.heap.size,0,none⟩) l'.length n)) hK ?_ ?_)
 ·rw[eY];exact xj
 ·simp only[VR]
  exact⟨by rw[eY];show ca _ id _ id≠none;rw[ay];simp,by simp[updν,I1]⟩
def Bnd(o:Option Value)(d l:Int):Prop:=(o=none∧l=d)∨ ∃k,o=some (.int k l)
theorem pO(hc:Core c σ a.tmps w M ν){x:Option Operand}{d:Int}{k:Int→Option α}(h:yY (x.map σ.ρ) d k=some r): ∃l,k l=some r∧Bnd (x.map a.eval) d l:=by
 cases x with
 |none=>exact⟨d,h,.inl ⟨rfl,rfl⟩⟩
 |some x=>
  obtain⟨i,n,hx,h⟩:=nX (h:wz (σ.ρ x) (λ_ x=>k x)=some r)
  have hv:=hc.ev x
  rw[hx]at hv
  exact⟨n,h,.inr ⟨i,by rw[←hv.int];rfl⟩⟩
theorem we{s:Bool}{len cap:Nat}{lo hi mx:Option Value}{l h m:Int}(wM:Bnd lo 0 l)(J8:Bnd hi len h)(Ni:Bnd mx cap m)(hm:mx.isNone=true∨hi.isSome=true)
  (h0:0≤l) (h1:l≤h) (h2:h≤m) (h3:m≤cap):(Instr.sliceBounds s len cap lo hi mx).run P w= .ok (l.toNat,h.toNat,m.toNat) w:=by
 have hb: ∀(k:IntKind) (i:Int) (y:Nat) cd,0≤i→i≤y→(Instr.sliceBound (.int k i) y cd).run P w= .ok i.toNat w:=by
  intro k i y cd h1 h2
  simp[Instr.sliceBound,asIntOf,h1,h2]
 have jv:((m.toNat:Nat):Int)=m:=ω
 have hh':((h.toNat:Nat):Int)=h:=ω
 rcases Ni with⟨rfl,rfl⟩|⟨km,rfl⟩
 ·rcases J8 with⟨rfl,rfl⟩|⟨kh,rfl⟩
  ·rcases wM with⟨rfl,rfl⟩|⟨kl,rfl⟩
   ·simp[Instr.sliceBounds]
   ·simp[Instr.sliceBounds,hb kl l len _ h0 h1]
  ·rcases wM with⟨rfl,rfl⟩|⟨kl,rfl⟩
   ·simp[Instr.sliceBounds,hb kh h cap _ ω h2]
   ·simp[Instr.sliceBounds,hb kh h cap _ ω h2,hb kl l h.toNat _ h0 ω]
 ·rcases J8 with⟨rfl,rfl⟩|⟨kh,rfl⟩
  ·simp at hm
  ·rcases wM with⟨rfl,rfl⟩|⟨kl,rfl⟩
   ·simp[Instr.sliceBounds,hb km m cap _ ω h3,hb kh h m.toNat _ ω ω]
   ·simp[Instr.sliceBounds,hb km m cap _ ω h3,hb kh h m.toNat _ ω ω,hb kl l h.toNat _ h0 ω]
theorem Jt{ρ:Operand→Value}{t:TypeId}{x:Operand}{lo hi mx:Option Operand}(ho:o.op= .slice t x lo hi mx){s:ByteArray}{l h:Int}(hu:P.underlying t=some .string)(hx:ρ x= .string s)
  (wM:Bnd (lo.map ρ) 0 l) (J8:Bnd (hi.map ρ) s.size h) (Ni:mx.isNone=true) (h0:0≤l) (h1:l≤h) (h2:h≤s.size):(execOp ρ o).run P w= .ok (.value (.string (s.extract l.toNat h.toNat))) w:=by
 have hm:mx=none:=by simpa using Ni
 subst hm
 have hb:=we (P:=P) (w:=w) (s:=false) wM J8 (.inl ⟨rfl,rfl⟩) (.inl rfl) h0 h1 h2 (fW _)
 simp[execOp,ho,hx,Instr.sliceAt,Instr.slice,run_underlying hu,hb]
theorem qJ{ρ:Operand→Value}{t e:TypeId}{x:Operand}{lo hi mx:Option Operand}(ho:o.op= .slice t x lo hi mx){τ:Ty}{ad:Option Addr}{len cap:Nat}{l h m:Int}(hu:P.underlying t=some (.slice e))(hle:kX P τ e)(hx:ρ x= .slice ad len cap)
  (wM:Bnd (lo.map ρ) 0 l) (J8:Bnd (hi.map ρ) len h) (Ni:Bnd (mx.map ρ) cap m) (hm:(mx.map ρ).isNone=true∨(hi.map ρ).isSome=true) (h0:0≤l) (h1:l≤h) (h2:h≤m) (h3:m≤cap):
  (execOp ρ o).run P w= .ok (.value (.slice (if m.toNat=l.toNat then ad else ad.map (·.add (l.toNat*τ.size))) (h.toNat-l.toNat) (m.toNat-l.toNat))) w:=by
 have hb:=we (P:=P) (w:=w) (s:=true) wM J8 Ni hm h0 h1 h2 h3
 simp[execOp,ho,hx,Instr.sliceAt,Instr.slice,run_underlying hu,hb,dv hle]
theorem DK{x:Option Operand}(h:kA x=true)(a:Act): ∃k,x.map a.eval=some (.int k 0):=by
 unfold kA at h
 split at h
 ·rename_i k n
  have:n=0:=by simpa using h
  subst this
  exact⟨k,rfl⟩
 ·cases h
theorem Rd.cut{e:Ty}{ad:Option Addr}{len cap:Nat}{x:List e.den}(h:Rd w M (.slice e) [.slice ad len cap] x){l hh m:Int}(h0:0≤l)(h1:l≤hh)(h2:hh≤m)(hl:hh≤x.length):
  Rd w M (.slice e) [.slice (if m.toNat=l.toNat then ad else ad.map (·.add (l.toNat*e.size))) (hh.toNat-l.toNat) (m.toNat-l.toNat)] (List.drop l.toNat (List.take hh.toNat x)):=by
 simp only[Rd,fV,eF]at h ⊢
 obtain⟨a',m3,hv,hc,hr⟩:=h
 cases hv
 have hlen:ℓ (List.drop l.toNat (List.take hh.toNat x))=hh.toNat-l.toNat:=by rw[dY,bV];omega
 refine⟨_,_,by rw[hlen],by rw[hlen];omega,λi hi=> ?_⟩
 rw[hlen]at hi
 obtain⟨b,off,ha,hb,hm,cs,pt,kB⟩:=hr (l.toNat+i) ω
 rw[ah ω]
 refine⟨b,off+l.toNat*e.size,by rw[ha];simp[Addr.add_lit],hb,hm,cs,?_,?_⟩
 ·rw[show off+l.toNat*e.size+i*e.size=off+(l.toNat+i)*e.size from by rw[eD];omega];exact pt
 ·simp only[FY,F1,Az]at kB ⊢
  exact kB
theorem VR.emp{H:Nat→Option bp}{v:Value}:VR w M H ν .emp v↔ ∃ad,v= .slice ad 0 0:=by simp[VR]
theorem XS(hE:EnvTy P E)(hc:Core c σ a.tmps w M ν){t:TypeId}{x:Operand}{lo hi mx:Option Operand}(ho:o.op= .slice t x lo hi mx){K:gL α}{τ:Ty}(ht:E.ty t=some τ)
  (h:rU τ (lo.isNone&&kA hi&&kA mx) (σ.ρ x) (lo.map σ.ρ) (hi.map σ.ρ) (mx.map σ.ρ) σ.H K=some r) (hn:fH c σ a o w M ν K r next):o.wp P a w next Q:=by
 have y6:=hE.ty t τ ht
 have hv:=hc.ev x
 have RA: ∀(e:Ty) (e':TypeId) (ad:Option Addr) (len cap:Nat),P.underlying t=some (.slice e')→kX P e e'→a.eval x= .slice ad len cap→(lo.isNone&&kA hi&&kA mx)=true→
   ∃ad',(execOp a.eval o).run P w= .ok (.value (.slice ad' 0 0)) w:=by
  intro e e' ad len cap hu hle hx hz
  simp only[bM]at hz
  obtain⟨⟨h1,h2⟩,h3⟩:=hz
  have h1:lo=none:=by simpa using h1
  subst h1
  obtain⟨k2,h2⟩:=DK h2 a
  obtain⟨k3,h3⟩:=DK h3 a
  have:=qJ (P:=P) (w:=w) ho hu hle hx (l:=0) (h:=0) (m:=0) (.inl ⟨rfl,rfl⟩) (.inr ⟨k2,h2⟩) (.inr ⟨k3,h3⟩) (.inr (by rw[h2];rfl)) ω ω ω ω
  exact⟨_,this⟩
 unfold rU at h
 split at h
 ·rename_i s hx
  obtain⟨hm,h⟩:=cz h
  obtain⟨l,h,wM⟩:=pO hc h
  obtain⟨hh,h,J8⟩:=pO hc h
  obtain⟨hk,h⟩:=cz h
  rw[rP]at hk
  obtain⟨h0,h1,h2,h3⟩:=bt hk
  rw[hx]at hv
  exact a6 (Jt ho y6.str hv.str wM J8 (by simpa using hm) h0 h1 h2) (hn _ [] [] _ _ _ _ h (.refl hc.mem) (.mkStr _))
 ·rename_i e hx
  obtain⟨e',hu,hle⟩:=y6.slice
  rw[hx]at hv
  obtain⟨ad,hv⟩:=VR.emp.1 hv
  cases hz:(lo.isNone&&kA hi&&kA mx)
  ·rw[hz]at h
   replace h:cond (mx.map σ.ρ).isNone (yY (lo.map σ.ρ) 0 λl=>yY (hi.map σ.ρ) 0 λh=>cond (ja l h 0 0) (K .emp [] []) none) none=some r:=h
   obtain⟨hm,h⟩:=cz h
   obtain⟨l,h,wM⟩:=pO hc h
   obtain⟨hh,h,J8⟩:=pO hc h
   obtain⟨hk,hK⟩:=cz h
   rw[rP]at hk
   obtain⟨h0,h1,h2,h3⟩:=bt hk
   have jv:mx=none:=by simpa using hm
   subst jv
   have:=qJ (P:=P) (w:=w) ho hu hle hv wM J8 (.inl ⟨rfl,rfl⟩) (.inl rfl) h0 h1 (m:=0) ω ω
   refine a6 this (hn _ [] [] _ _ _ _ hK (.refl hc.mem) (VR.emp.2 ?_))
   rw[show hh.toNat-l.toNat=0 from by omega,show(0:Int).toNat-l.toNat=0 from by omega]
   exact⟨_,rfl⟩
  ·rw[hz]at h
   obtain⟨ad',dC⟩:=RA e e' ad 0 0 hu hle hv hz
   exact a6 dC (hn _ [] [] _ _ _ _ h (.refl hc.mem) (VR.emp.2 ⟨_,rfl⟩))
 ·rename_i e ko
  obtain⟨e',hu,hle⟩:=y6.slice
  cases hz:(lo.isNone&&kA hi&&kA mx)
  ·rw[hz]at h
   obtain⟨y,rd,ups,M',h,gi,hV,_⟩:=la (.refl _) hc.mem hv h
   replace h:cond ((mx.map σ.ρ).isNone||(hi.map σ.ρ).isSome) (yY (lo.map σ.ρ) 0 λl=>yY (hi.map σ.ρ) (ℓ y:Int) λh=>yY (mx.map σ.ρ) (ℓ y:Int) λm=>
    cond (ja l h m (ℓ y:Int)) (K (.val (.slice e) (List.drop l.toNat (List.take h.toNat y))) rd ups) none) none=some r:=h
   obtain⟨hm,h⟩:=cz h
   obtain⟨l,h,wM⟩:=pO hc h
   obtain⟨hh,h,J8⟩:=pO hc h
   obtain⟨m,h,Ni⟩:=pO hc h
   obtain⟨hk,h⟩:=cz h
   rw[rP]at hk
   obtain⟨h0,h1,h2,h3⟩:=bt hk
   have hr:=V.slice.1 hV
   have eQ:=hr
   simp only[Rd,fV,eF]at eQ
   obtain⟨ad,cap,hx,ajX,_⟩:=eQ
   rw[hx]at hr
   have jv:(mx.map a.eval).isNone=true∨(hi.map a.eval).isSome=true:=by
    simp only[nS,Option.isNone_map,Option.isSome_map]at hm ⊢;exact hm
   have XT: ∃m',Bnd (mx.map a.eval) cap m'∧hh≤m'∧m'≤cap:=by
    rcases Ni with⟨h9,_⟩|⟨k,h9⟩
    ·exact⟨cap,.inl ⟨h9,rfl⟩,ω,fW _⟩
    ·exact⟨m,.inr ⟨k,h9⟩,h2,ω⟩
   obtain⟨m',XT,h4,h5⟩:=XT
   have dC:=qJ (P:=P) (w:=w) ho hu hle hx wM J8 XT jv h0 h1 h4 h5
   refine a6 dC (hn _ _ _ _ _ M' _ h gi ?_)
   simp only[VR]
   exact V.slice.2 (hr.cut h0 h1 h4 ω)
  ·rw[hz]at h
   obtain⟨y,rd,h,hS⟩:=DD hc.mem hv h
   obtain⟨ad,cap,hx,_⟩:=hS
   obtain⟨ad',dC⟩:=RA e e' ad _ cap hu hle hx hz
   exact a6 dC (hn _ _ [] _ _ _ _ h (.refl hc.mem) (VR.emp.2 ⟨_,rfl⟩))
 ·cases h
theorem Vg(hE:EnvTy P E)(hc:Core c σ a.tmps w M ν){t:TypeId}{x:Operand}{lo hi mx:Option Operand}(ho:o.op= .slice t x lo hi mx){K:gL α}{τ:Ty}(ht:E.ty t=some τ)
  (h:w8 E τ (lo.isNone&&kA hi&&kA mx) (σ.ρ x) (lo.map σ.ρ) (hi.map σ.ρ) (mx.map σ.ρ) σ.H K=some r) (hn:fH c σ a o w M ν K r next):o.wp P a w next Q:=by
 unfold w8 at h
 split at h
 ·rename_i e id lo' hvw hx wM J8 Ni
  have y6:=hE.ty t _ ht
  obtain⟨e',hu,hle⟩:=y6.slice
  have hv:=hc.ev x
  rw[hx]at hv
  simp only[VR]at hv
  obtain⟨h0,hv⟩:=hv
  have h:yY (lo.map σ.ρ) 0 (λi=>match σ.H id with
   |some (.own e' l)=>js e' e (cond (ja i (ℓ l:Int) (ℓ l:Int) (ℓ l:Int)) (K (.sub id e i.toNat) [id] []) none)
   |_=>none)=some r:=by rw[wM];exact h
  obtain⟨i,h,hb⟩:=pO hc h
  split at h
  ·rename_i e2 l bg
   obtain⟨e1,h⟩:=dU h
   subst e1
   obtain⟨hk,h⟩:=cz h
   rw[rP]at hk
   obtain⟨h1,h2,_,_⟩:=bt hk
   obtain⟨ad,cap,hnu⟩:=ER.GD (hc.mem.jO id _ bg)
   have ajX:l.length≤cap:=by
    have:=hc.mem.jO id _ bg
    simp only[ER]at this
    rcases this with⟨rfl,a,Rz⟩|⟨b,cs,t,cp,Rz,_,_,_,hl,_⟩
    ·simp
    ·rw[hnu]at Rz;simp only[Value.slice.injEq]at Rz;obtain⟨_,_,rfl⟩:=Rz;exact hl
   have au3:hi=none:=by simpa using J8
   have XT:mx=none:=by simpa using Ni
   subst au3 XT
   have dC:=qJ (P:=P) (w:=w) ho hu hle (hv.trans hnu) (l:=i) (h:=(l.length:Int)) (m:=(cap:Int)) hb (.inl ⟨rfl,rfl⟩) (.inl ⟨rfl,rfl⟩) (.inl rfl) h1 h2 ω (fW _)
   refine a6 dC (hn _ _ [] _ _ _ _ h (.refl hc.mem) ?_)
   simp only[VR]
   exact⟨h0,ad,_,cap,hnu,by simp⟩
  ·cases h
 ·exact XS hE hc ho ht h hn
theorem tk{t ty e:TypeId}{i:TypeInfo}(ht:P.underlying t=some (.slice e))(hi:P.info? e=some i)(base:Option Addr)(n cap:Nat)(h:n≤cap)(a':Option Addr)(cp:Nat):
  (Builtin.append_ #[t,t] ty #[.slice base n cap,.slice a' 0 cp]).run P w= .ok (.slice base n cap) w:=by
 cases a'<;>cases base<;>simp[Builtin.append_,run_underlying ht,Go.sizeOf,typeInfo,hi,Builtin.lenOf,h,Builtin.firstCells,loadCells,loadCellsFrom,storeCells]
theorem N7{t ty e te:TypeId}{i:TypeInfo}(ht:P.underlying t=some (.slice e))(hi:P.info? e=some i){b n cap m cp:Nat}{a':Addr}{news:List Value}{cs:Array Value}
  (hg:w.heap[b]? =some (.cells cs te (0,0))) (hs:cs.size=cap*i.size) (hl:news.length=m*i.size) (hn: ∀j u,news[j]? =some u→w.cell? (a'.add j)=some u) (h1: ∀u∈news,u.oneCell'=true) (hr:n+m≤cap):
  (Builtin.append_ #[t,t] ty #[.slice (some ⟨b,0,none⟩) n cap,.slice (some a') m cp]).run P w= .ok (.slice (some ⟨b,0,none⟩) (n+m) cap) (w.setRow b (eN cs.toList (n*i.size) news).toArray):=by
 have hf:=run_firstCells_some (P:=P) w i.size m a' m cp news hl hn
 have hm:(n+m)*i.size≤cap*i.size:=kv _ hr
 rw[eD]at hm
 have xh:=run_storeCells_at (P:=P) b (n*i.size) te news 0 cs w hg ω h1
 simp only[mA]at xh
 simp[Builtin.append_,run_underlying ht,Go.sizeOf,typeInfo,hi,Builtin.lenOf,hr,hf,Addr.add_lit,xh,eN]
theorem iP{args:Array Operand}{t:TypeId}{x y:Operand}{v:Value}{w':World}(ho:o.op= .call {callee:= .builtin .append,args,argTypes:= #[t,t]})(ha:args.toList=[x,y])
  (h:(Builtin.append_ #[t,t] o.type #[a.eval x,a.eval y]).run P w= .ok v w'):(execOp a.eval o).run P w= .ok (.value v) w':=by
 obtain⟨cs,hr⟩:=nW (P:=P) (ρ:=a.eval) ho (w:=w)
 rw[hr]
 have:args.map a.eval= #[a.eval x,a.eval y]:=by apply gZ;simp[ha]
 rw[this]
 simp[builtin,h]
theorem GF{H:Nat→Option bp}(hm:Mem c H w M ν){id:Nat}(bg:H id=none){t ty:TypeId}{e':TypeId}{e:Ty}(hu:P.underlying t=some (.slice e'))(hle:kX P e e')
  {xs ys:List e.den} {olds news:List Value} {base:Option Addr} {cap cp:Nat} {a':Addr} (XU:base=none→xs=[]∧cap=0)
  (wM:olds.length=xs.length*e.size) (hro:pv w M e olds xs) (ho: ∀b,base=some b→ ∀j u,olds[j]? =some u→w.cell? (b.add j)=some u)
  (hln:news.length=ys.length*e.size) (hrn:pv w M e news ys) (hn: ∀j u,news[j]? =some u→w.cell? (a'.add j)=some u)
  (hg:cap<xs.length+ys.length) (hs:xs.length+ys.length<AN):
  ∃v w' M' ν',(Builtin.append_ #[t,t] ty #[.slice base xs.length cap,.slice (some a') ys.length cp]).run P w= .ok v w'∧Tr c H w M ν (ca H id (some (.own e (xs++ys)))) w' M' ν'∧ν' id=v:=by
 obtain⟨i,hi,qB,hz,hby⟩:=hle.base
 have hzs:(cg e e.cD).cells.size=e.size:=by rw[←bn,fI,mD]
 have h63:xs.length+ys.length≤maxLen:=by simp only[AN,maxLen]at hs ⊢;omega
 have GG:(xs.length+ys.length)*i.bytes≤140737488355328:=by
  have:(xs.length+ys.length)*i.bytes≤68719476736*2048:=ui (by simp only[AN]at hs;omega) hby
  omega
 have dC: ∃m3 rest,(Builtin.append_ #[t,t] ty #[.slice base xs.length cap,.slice (some a') ys.length cp]).run P w= .ok (.slice (some ⟨w.heap.size,0,none⟩) (xs.length+ys.length) m3) (w.drew.alloc (.cells (olds++news++rest).toArray e'))∧
   xs.length+ys.length≤m3∧m3≤maxLen∧rest.length=(m3-(xs.length+ys.length))*e.size:=by
  refine⟨grownCap w (xs.length+ys.length) cap e',(Builtin.zeroCells (cg e e.cD).cells (grownCap w (xs.length+ys.length) cap e'-(xs.length+ys.length))).toList,?_,grownCap_ge _ _ _ _,grownCap_le_maxLen _ _ _ _ h63,?_⟩
  ·cases base with
   |none=>
    obtain⟨rfl,rfl⟩:=XU rfl
    have ho0:olds=[]:=uZ (by rw[wM];simp)
    subst ho0
    have:=run_append_nil (P:=P) w t ty e' i _ hu hi hz a' ys.length cp news (by rw[hln,qB]) hn (by simpa using hg) (by simp only[AN]at hs;omega) (by simp at GG;omega)
    simp only[cr,gn,cN]
    rw[this]
    congr 2
    apply fv (λz=>Obj.cells z e' (0,0))
    apply gZ;simp
   |some b=>
    have:=run_append_grow (P:=P) w t ty e' i _ hu hi hz b xs.length cap olds (by rw[wM,qB]) (ho b rfl) a' ys.length cp news (by rw[hln,qB]) hn hg (by simp only[AN]at hs;omega) (growslice_fits hg GG)
    rw[this]
    congr 2
    apply fv (λz=>Obj.cells z e' (0,0))
    apply gZ;simp
  ·rw[bn,size_zeroCells,hzs]
 obtain⟨m3,rest,dC,EL,hc2,aoS⟩:=dC
 have hlen:(xs++ys).length=xs.length+ys.length:=aS
 have hd:=Tr.drew hm
 have hon:(olds++news).length=(xs++ys).length*e.size:=by rw[aS,wM,hln,hlen,eD]
 have RW:=Tr.row hd.mem bg e' (e:=e) (cs:=(olds++news++rest).toArray) (l:=xs++ys) (cap:=m3) (by rw[hlen];exact EL) hc2
  (by rw[jg,aS,hon,aoS,hlen,←eD];congr 1;omega)
  (pv.more ((hro.append wM hrn).bZ hd.bZ) (by rw[hon];exact aH _))
 refine⟨_,_,_,_,dC,hd.trans RW,?_⟩
 rw[←hlen];simp[updν]
theorem Vh(hE:EnvTy P E)(hc:Core c σ a.tmps w M ν){args:Array Operand}{ts:Array TypeId}{t t':TypeId}{x y:Operand}(ho:o.op= .call {callee:= .builtin .append,args,argTypes:=ts})(ha:args.toList=[x,y])(hts:ts.toList=[t,t']){K:gL α}{e:Ty}
  (ht:E.ty t=some (.slice e)) {id:Nat} (h:cond (Nat.beq t t') (rS σ.H id (.own e []) (NP id e (σ.ρ x) (σ.ρ y) σ.H K)) none=some r) (hn:fH c σ a o w M ν K r next):o.wp P a w next Q:=by
 obtain⟨htt,h1⟩:=cz h
 clear h
 have htt:=fF htt
 subst htt
 obtain⟨bg,h⟩:=mC h1
 clear h1
 have au6:ts= #[t,t]:=by apply gZ;simpa using hts
 subst au6
 obtain⟨e',hu,hle⟩:=(hE.ty t _ ht).slice
 obtain⟨i,hi,qB,hz,hby⟩:=hle.base
 have LD:=hc.ev x
 unfold NP at h
 obtain⟨ys,rd,h,hS⟩:=DD hc.mem (hc.ev y) h
 have aj5:(ys=[]∧ ∃a' cp,a.eval y= .slice a' 0 cp)∨(ys≠[]∧ ∃a' cp news,a.eval y= .slice (some a') ys.length cp∧news.length=ys.length*e.size∧(∀j u,news[j]? =some u→w.cell? (a'.add j)=some u)∧pv w M e news ys∧ ∀u∈news,u.oneCell'=true):=by
  by_cases hy:ys=[]
  ·left
   obtain⟨a',cp,hv,_⟩:=hS
   exact⟨hy,a',cp,by rw[hv,hy];rfl⟩
  ·right
   obtain⟨b,off,cp,news,hv,hl,pt,kB,h1⟩:=hS.cells hy
   exact⟨hy,⟨b,off,none⟩,cp,news,hv,hl,λj u hj=>by rw[Addr.add_lit];exact pt j u hj,kB,h1⟩
 split at h
 ·
  rename_i hx
  rw[hx]at LD
  obtain⟨ad,LD⟩:=VR.emp.1 LD
  obtain⟨TI,h⟩:=cz h
  rw[Gk]at TI
  have TI:=bt TI
  rcases aj5 with⟨rfl,a',cp,A2⟩|⟨hy,a',cp,news,A2,hl,pt,kB,h1⟩
  ·refine a6 (iP ho ha (by rw[LD,A2];exact tk hu hi ad 0 0 (aH _) a' cp)) (hn _ _ _ _ _ _ _ h (Tr.nothing hc.mem bg e ad) ?_)
   simp only[VR]
   exact⟨by show ca _ id _ id≠none;rw[ay];simp,by simp[updν]⟩
  ·have N8:0<ys.length:=pD.2 hy
   obtain⟨v,w',M',ν',dC,gi,hv⟩:=GF (P:=P) (ty:=o.type) hc.mem bg hu hle (xs:=[]) (ys:=ys) (olds:=[]) (news:=news) (base:=ad) (cap:=0) (cp:=cp) (a':=a') (λ_=>⟨rfl,rfl⟩) (by simp) (λi hi=>absurd hi (by simp)) (λ_ _ j u hj=>by simp at hj)
    hl kB pt (by simpa using N8) (by simpa using TI)
   refine a6 (iP ho ha (by rw[LD,A2];exact dC)) (hn _ _ _ _ _ _ _ h gi ?_)
   simp only[VR]
   exact⟨by show ca _ id _ id≠none;rw[ay];simp,hv.symm⟩
 ·
  rename_i j hx
  rw[hx]at LD
  simp only[VR]at LD
  obtain⟨_,LD⟩:=LD
  split at h
  ·rename_i e1 l hj
   obtain⟨e2,h⟩:=bw h
   cases e2
   obtain⟨TI,h⟩:=cz h
   rw[Gk]at TI
   have TI:l.length+ys.length<AN:=bt TI
   have ko:id≠j:=λe=>by rw[e,hj]at bg;cases bg
   have qi:ca σ.H j (some .gone) id=none:=by rw[az _ _ ko];exact bg
   have RC:=Tr.gone hc.mem j
   have kO:=hc.mem.jO j _ hj
   simp only[ER]at kO
   rcases kO with⟨rfl,ad,hjv⟩|⟨b,cs,te,cap,hjv,hg,hM,Tz,hl,Fl,hs,hr⟩
   ·rw[hjv]at LD
    rcases aj5 with⟨rfl,a',cp,A2⟩|⟨hy,a',cp,news,A2,hl,pt,kB,h1⟩
    ·refine a6 (iP ho ha (by rw[LD,A2];exact tk hu hi ad 0 0 (aH _) a' cp)) (hn _ _ _ _ _ _ _ h (RC.trans (Tr.nothing RC.mem qi e ad)) ?_)
     simp only[VR]
     exact⟨by show ca _ id _ id≠none;rw[ay];simp,by simp[updν]⟩
    ·have N8:0<ys.length:=pD.2 hy
     obtain⟨v,w',M',ν',dC,gi,hv⟩:=GF (P:=P) (ty:=o.type) RC.mem qi hu hle (xs:=[]) (ys:=ys) (olds:=[]) (news:=news) (base:=ad) (cap:=0) (cp:=cp) (a':=a') (λ_=>⟨rfl,rfl⟩) (by simp) (λi hi=>absurd hi (by simp)) (λ_ _ j u hj=>by simp at hj)
      hl kB pt (by simpa using N8) (by simpa using TI)
     refine a6 (iP ho ha (by rw[LD,A2];exact dC)) (hn _ _ _ _ _ _ _ h (RC.trans gi) ?_)
     simp only[VR]
     exact⟨by show ca _ id _ id≠none;rw[ay];simp,hv.symm⟩
   ·rw[hjv]at LD
    have Fo:cs.toList.length=cap*e.size:=by rw[bn,hs]
    have I7:l.length*e.size≤cap*e.size:=kv _ hl
    rcases aj5 with⟨rfl,a',cp,A2⟩|⟨hy,a',cp,news,A2,hln,pt,kB,h1⟩
    ·refine a6 (iP ho ha (by rw[LD,A2];exact tk hu hi _ _ cap hl a' cp)) (hn _ _ _ _ _ M (updν ν id (ν j)) h ?_ ?_)
     ·refine Tr.rename hc.mem hj bg (.inr rfl) ?_
      rw[cw]
      exact hc.mem.jO j _ hj
     ·simp only[VR]
      exact⟨by show ca _ id _ id≠none;rw[ay];simp,by simp[updν,hjv]⟩
    ·by_cases A8:l.length+ys.length≤cap
     ·have hmul:(l.length+ys.length)*e.size≤cap*e.size:=kv _ A8
      rw[eD]at hmul
      have dC:=N7 (P:=P) (ty:=o.type) hu hi (w:=w) (b:=b) (n:=l.length) (cap:=cap) (m:=ys.length) (cp:=cp) (a':=a') (news:=news) (cs:=cs) hg (by rw[hs,qB]) (by rw[hln,qB]) pt h1 A8
      rw[qB]at dC
      have abJ:eN cs.toList (l.length*e.size) news=(cs.toList.take (l.length*e.size)++news)++cs.toList.drop (l.length*e.size+news.length):=rfl
      have hold:pv w M e (cs.toList.take (l.length*e.size)) l:=pv.take hr (aH _)
      have htl:(cs.toList.take (l.length*e.size)).length=l.length*e.size:=by rw[bV];omega
      have aiq:pv w M e (eN cs.toList (l.length*e.size) news) (l++ys):=by
       rw[abJ]
       refine pv.more (hold.append htl kB) ?_
       rw[aS,aS,htl,hln,eD];exact aH _
      have N9:(eN cs.toList (l.length*e.size) news).length=cap*e.size:=by rw[eH ω];exact Fo
      have abV:Tr c σ.H w M ν (ca σ.H j (some (.own e l))) (w.setRow b (eN cs.toList (l.length*e.size) news).toArray) M ν:=by
       refine Tr.write (e':= .own e l) hc.mem hj trivial trivial (.refl _) (by rw[hjv];simp[fC];omega) hg λJ4 hk xk=> ?_
       simp only[ER]
       refine .inr ⟨b,_,te,cap,hjv,setRow_heap w b cs _ te _ hg,xk,Tz,hl,Fl,by rw[jg];exact N9,λk A3=> ?_⟩
       have:=(aiq k (by rw[aS];omega)).bZ hk
       rw[Am A3]at this
       exact this
      rw[Cl hj]at abV
      have xj:Tr c σ.H (w.setRow b (eN cs.toList (l.length*e.size) news).toArray) M ν (ca (ca σ.H j (some .gone)) id (some (.own e (l++ys)))) (w.setRow b (eN cs.toList (l.length*e.size) news).toArray) M (updν ν id (.slice (some ⟨b,0,none⟩) (l++ys).length cap)):=by
       refine Tr.rename abV.mem hj bg (.inr (by rw[hjv];simp[fC])) ?_
       simp only[ER]
       refine .inr ⟨b,_,te,cap,rfl,setRow_heap w b cs _ te _ hg,hM,Tz,by rw[aS];exact A8,Fl,by rw[jg];exact N9,(aiq.bZ abV.bZ)⟩
      refine a6 (iP ho ha (by rw[LD,A2];exact dC)) (hn _ _ _ _ _ _ _ h (abV.trans xj) ?_)
      simp only[VR]
      exact⟨by show ca _ id _ id≠none;rw[ay];simp,by simp[updν]⟩
     ·obtain⟨v,w',M',ν',dC,gi,hv⟩:=GF (P:=P) (ty:=o.type) RC.mem qi hu hle (xs:=l) (ys:=ys) (olds:=cs.toList.take (l.length*e.size)) (news:=news) (base:=some ⟨b,0,none⟩) (cap:=cap) (cp:=cp) (a':=a') (λh=>by cases h)
       (by rw[bV];omega) (pv.take hr (aH _)) (λb' fa k u hk=>by
        cases fa
        rw[Addr.add_lit,cell_of hg]
        rw[mR]at hk
        split at hk
        ·rw[←iA];simpa using hk
        ·cases hk)
       hln kB pt ω TI
      refine a6 (iP ho ha (by rw[LD,A2];exact dC)) (hn _ _ _ _ _ _ _ h (RC.trans gi) ?_)
      simp only[VR]
      exact⟨by show ca _ id _ id≠none;rw[ay];simp,hv.symm⟩
  ·cases h
 ·cases h
theorem pv.over{e:Ty}{cs zs:List Value}{l1 l2:List e.den}{n:Nat}(h1:pv w M e cs l1)(h2:pv w M e zs l2)(hn:n≤l1.length)(hc:l1.length*e.size≤cs.length)(hz:zs.length=l2.length*e.size)(hs:n*e.size+zs.length≤cs.length):
  pv w M e (eN cs (n*e.size) zs) (List.take n l1++l2):=by
 intro i hi
 rw[aS,bV,ij hn]at hi
 by_cases eT:i<n
 ·have:=ew (s:=e.size) eT
  rw[Fk (.inl this) hs,Am (by rw[bV];omega),Az]
  exact h1 i ω
 ·have h3:=h2 (i-n) ω
  have TJ:i-n<l2.length:=ω
  have h4:=ew (s:=e.size) TJ
  have h5:i*e.size=n*e.size+(i-n)*e.size:=by rw[←eD];congr 1;omega
  have h6:((eN cs (n*e.size) zs).drop (i*e.size)).take e.size=(zs.drop ((i-n)*e.size)).take e.size:=by
   unfold eN
   have hl:(cs.take (n*e.size)).length=n*e.size:=by rw[bV];omega
   rw[h5,bE,←iC,mz hl,ym ω,yl (by rw[dY];omega)]
  rw[h6,FP (by rw[bV];omega)]
  simp only[bV,ij hn]
  exact h3
theorem A9{args:Array Operand}{t:TypeId}{x:Operand}{v:Value}{w':World}(ho:o.op= .call {callee:= .builtin .clear,args,argTypes:= #[t]})(ha:args.toList=[x])
  (h:(Builtin.clear_ #[t] o.type #[a.eval x]).run P w= .ok v w'):(execOp a.eval o).run P w= .ok (.value v) w':=by
 obtain⟨cs,hr⟩:=nW (P:=P) (ρ:=a.eval) ho (w:=w)
 rw[hr]
 have:args.map a.eval= #[a.eval x]:=by apply gZ;simp[ha]
 rw[this]
 simp[builtin,h]
theorem XV(hE:EnvTy P E)(hc:Core c σ a.tmps w M ν){args:Array Operand}{ts:Array TypeId}{t:TypeId}{x:Operand}(ho:o.op= .call {callee:= .builtin .clear,args,argTypes:=ts})(ha:args.toList=[x])(hts:ts.toList=[t]){K:gL α}{e:Ty}
  (ht:E.ty t=some (.slice e)) (h:zw e (σ.ρ x) σ.H K=some r) (hn:fH c σ a o w M ν K r next):o.wp P a w next Q:=by
 have hts:ts= #[t]:=by apply gZ;simp[hts]
 subst hts
 have hv:=hc.ev x
 unfold zw at h
 split at h
 ·rename_i id e1 lo hx
  obtain⟨e2,h0⟩:=dU h
  clear h
  subst e2
  rw[hx]at hv
  simp only[VR]at hv
  obtain⟨aB9,ad,n,cap,hnu,hv⟩:=hv
  split at h0
  ·rename_i e3 l bg
   obtain⟨e4,h⟩:=bw h0
   clear h0
   cases e4
   obtain⟨e',hu,hle⟩:=(hE.ty t _ ht).slice
   obtain⟨i,hi,hs,hz,_⟩:=hle.base
   have kO:=hc.mem.jO id _ bg
   simp only[ER]at kO
   rcases nT lo l.length with eT|TK
   ·rcases kO with⟨rfl,_⟩|⟨b,cs,te,m3,hb,hg,hM,Tz,hl,Fl,qB,hr⟩
    ·simp at eT
    ·rw[hnu]at hb
     simp only[Value.slice.injEq]at hb
     obtain⟨rfl,rfl,rfl⟩:=hb
     rw[ah ω]at hv
     have hzs:(cg e1 e1.cD).cells.size=e1.size:=by rw[←bn,fI,mD]
     have hzc:Builtin.zeroCells (cg e1 e1.cD).cells (l.length-lo)=madeCells (cg e1 e1.cD).cells ((l.length-lo)*e1.size):=by
      unfold Builtin.zeroCells madeCells;rw[hzs]
     have hzl:(madeCells (cg e1 e1.cD).cells ((l.length-lo)*e1.size)).toList.length=(l.length-lo)*e1.size:=by rw[bn,size_madeCells]
     have Cm: ∀u∈(madeCells (cg e1 e1.cD).cells ((l.length-lo)*e1.size)).toList,u.oneCell'=true:=by
      intro u hu
      have hm:u∈(cg e1 e1.cD).cells.toList:=by
       simp only[madeCells,Array.toList_map,cW]at hu
       obtain⟨j,hj,rfl⟩:=hu
       rw[Array.mem_toList_iff,Array.mem_range]at hj
       have h0:0<e1.size:=by
        rcases Nat.eq_zero_or_pos e1.size with h0|h0
        ·rw[h0]at hj;simp at hj
        ·exact h0
       have AY:j%(cg e1 e1.cD).cells.size<(cg e1 e1.cD).cells.size:=Nat.mod_lt _ ω
       rw[getElem!_pos (cg e1 e1.cD).cells _ AY]
       exact Array.getElem_mem_toList AY
      rw[fI]at hm
      exact(Rd.zero w M e1).lM u hm
     have GG:lo*e1.size+(l.length-lo)*e1.size≤cs.size:=by
      rw[qB,←eD]
      exact kv _ ω
     have xh:=run_storeCells_at (P:=P) b (lo*e1.size) te (madeCells (cg e1 e1.cD).cells ((l.length-lo)*e1.size)).toList 0 cs w hg (by rw[hzl];omega) Cm
     simp only[mA]at xh
     obtain⟨m,hm⟩: ∃m,l.length-lo=m+1:=⟨l.length-lo-1,ω⟩
     have dC:(Builtin.clear_ #[t] o.type #[a.eval x]).run P w= .ok (.tuple #[]) (w.setRow b (eN cs.toList (lo*e1.size) (madeCells (cg e1 e1.cD).cells ((l.length-lo)*e1.size)).toList).toArray):=by
      rw[hv]
      rw[hm]at xh hzc ⊢
      simp[Builtin.clear_,run_underlying hu,zeroValue,typeInfo,hi,hz,Addr.add_lit,hzc,xh,eN]
     have gi:=Tr.write (e':= .own e1 (List.take lo l++List.replicate (ℓ l-lo) e1.zero)) (new:=(eN cs.toList (lo*e1.size) (madeCells (cg e1 e1.cD).cells ((l.length-lo)*e1.size)).toList).toArray) hc.mem bg trivial trivial ⟨rfl,by simp;omega⟩ (by rw[hnu];simp[fC];omega) hg (λJ4 hk xk=>by
      simp only[ER]
      refine .inr ⟨b,_,te,cap,?_,setRow_heap w b cs _ te _ hg,xk,Tz,by simp;omega,Fl,?_,?_⟩
      ·rw[hnu];simp;omega
      ·rw[jg,eH (by rw[hzl,bn];exact GG),bn,qB]
      ·have h1:pv w M e1 cs.toList l:=hr
       have h2:=pv.made w M e1 (n:=(l.length-lo)*e1.size) (l:=l.length-lo) (aH _)
       have h3:=pv.over h1 h2 (n:=lo) ω (ct (kv _ hl) (Nat.le_of_eq (by rw[bn,qB]))) (by rw[hzl,c4]) (by rw[hzl,bn];exact GG)
       exact h3.bZ hk)
     exact a6 (A9 ho ha dC) (hn _ _ _ _ _ _ _ h gi (by simp[VR]))
   ·
    have I1:List.take lo l++List.replicate (ℓ l-lo) e1.zero=l:=by
     rw[iz TK,show l.length-lo=0 from by omega];simp
    have hn0:n=l.length:=by
     obtain⟨ad',m3,hh⟩:=ER.GD (hc.mem.jO id _ bg)
     rw[hnu]at hh;simp only[Value.slice.injEq]at hh;exact hh.2.1
    have dC:(Builtin.clear_ #[t] o.type #[a.eval x]).run P w= .ok (.tuple #[]) w:=by
     rw[hv,show n-lo=0 from by omega]
     cases(if cap=lo then ad else ad.map (·.add (lo*e1.size)))<;>simp[Builtin.clear_,run_underlying hu]
    have hH:ca σ.H id (some (.own e1 l))=σ.H:=by
     funext j
     by_cases hj:j=id
     ·subst hj;rw[ay,bg]
     ·rw[az _ _ hj]
    refine a6 (A9 ho ha dC) (hn _ _ _ _ _ M ν h ?_ (by simp[VR]))
    show Tr c σ.H w M ν (ca σ.H id (some (.own e1 (List.take lo l++List.replicate (ℓ l-lo) e1.zero)))) w M ν
    rw[I1,hH]
    exact .refl hc.mem
  ·cases h0
 ·cases h
end VM
end
