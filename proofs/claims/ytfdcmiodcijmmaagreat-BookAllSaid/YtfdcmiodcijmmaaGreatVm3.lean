/- A part of the proof of BookAll of layer 18: a machine that reads a function of the program as an equation between values. -/
import Derived.Test.YtfdcmiodcijmmaaGreatVm2
import Derived.Great.FillDense
set_option linter.all false
open List renaming length→ℓ
section
namespace VM
open Go
variable{P:Program}{E:Env}{o:Oper}{a:Act}{w:World}{M:Nat→Prop}{ν:Nat→Value}{σ:St}{c:Ctx}{α:Type}{r:α}{next:Act→World→Prop}{Q:Exit→Act→World→Prop}
theorem IN{b:BinOp}{k k':IntKind}{x y:Int}{t:TypeId}{K:aM→Option α}(h:Nw b k x y K=some r):
  ∃z,K (.val (.int k) z)=some r∧(binOp b t (.int k x) (.int k' y)).run P w= .ok (.int k z) w:=by
 unfold Nw at h
 split at h
 ·obtain⟨h0,h⟩:=iW h
  rw[nJ]at h0
  have h0: ¬y<0:=by simpa using h0
  refine⟨_,h,?_⟩
  rw[xO,Kv]
  simp[binOp,Op.shift,h0]
 ·obtain⟨h0,h⟩:=iW h
  rw[nJ]at h0
  have h0: ¬y<0:=by simpa using h0
  refine⟨_,h,?_⟩
  rw[Gk]
  simp[binOp,Op.shift,h0]
 ·cases h
theorem BL{b:BinOp}{k:IntKind}{x y:Int}{t:TypeId}{K:aM→Option α}(h:oG b k x y K=some r):
  ∃v u,K v=some r∧(binOp b t (.int k x) (.int k y)).run P w= .ok u w∧ ∀H,VR w M H ν v u:=by
 unfold oG at h
 split at h
 ·exact⟨_,_,h,by simp[binOp,Op.intArith,xO],λH=> .mkInt _ _⟩
 ·exact⟨_,_,h,by simp[binOp,Op.intArith,xO],λH=> .mkInt _ _⟩
 ·exact⟨_,_,h,by simp[binOp,Op.intArith,xO],λH=> .mkInt _ _⟩
 ·obtain⟨h0,h⟩:=iW h
  rw[fF]at h0
  have h0: ¬y=0:=by simpa using h0
  exact⟨_,_,h,by simp[binOp,Op.intDiv,xO,RT,h0],λH=> .mkInt _ _⟩
 ·obtain⟨h0,h⟩:=iW h
  rw[fF]at h0
  have h0: ¬y=0:=by simpa using h0
  exact⟨_,_,h,by simp[binOp,Op.intDiv,RU,h0],λH=> .mkInt _ _⟩
 ·exact⟨_,_,h,by simp[binOp,Op.intBits,oE],λH=> .mkInt _ _⟩
 ·exact⟨_,_,h,by simp[binOp,Op.intBits,oE],λH=> .mkInt _ _⟩
 ·exact⟨_,_,h,by simp[binOp,Op.intBits,oE],λH=> .mkInt _ _⟩
 ·exact⟨_,_,h,by simp[binOp,Op.intBits,oE],λH=> .mkInt _ _⟩
 ·exact⟨_,.bool (decide (x=y)),h,by simp[binOp,Op.intCmp];rfl,λH=>by rw[fF];exact .oJ _⟩
 ·exact⟨_,.bool (!decide (x=y)),h,by simp[binOp,Op.intCmp];rfl,λH=>by rw[fF];exact .oJ _⟩
 ·exact⟨_,_,h,by simp[binOp,Op.intCmp,nJ],λH=> .oJ _⟩
 ·exact⟨_,_,h,by simp[binOp,Op.intCmp,jl],λH=> .oJ _⟩
 ·exact⟨_,_,h,by simp[binOp,Op.intCmp,nJ],λH=> .oJ _⟩
 ·exact⟨_,_,h,by simp[binOp,Op.intCmp,jl],λH=> .oJ _⟩
 ·cases h
theorem IP{t:Option Ty}{op:BinOp}{τ:Ty}{x:τ.den}{υ:Ty}{y:υ.den}{K:aM→Option α}(h:xR t op τ x υ y K=some r):
  (∃(k k':IntKind) (m n:Int),aM.val τ x= .val (.int k) m∧aM.val υ y= .val (.int k') n∧(cond (Nx op) (Nw op k m n K) (if k=k' then oG op k m n K else none))=some r)∨
  (∃z:τ.den,aM.val υ y= .val τ z∧t=some τ∧τ.comparable=true∧((op= .eql∧K (.val .bool (k5 τ x z))=some r)∨(op= .neq∧K (.val .bool (!k5 τ x z))=some r))):=by
 unfold xR at h
 split at h
 ·exact .inl ⟨_,_,_,_,rfl,rfl,h⟩
 ·right
  split at h
  ·cases h
  ·obtain⟨e,h1⟩:=cy h
   clear h
   subst e
   obtain⟨hc,h⟩:=bn h1
   clear h1
   split at h
   ·obtain⟨e,h1⟩:=aJ h
    subst e
    exact⟨_,rfl,rfl,hc,.inl ⟨rfl,h1⟩⟩
   ·obtain⟨e,h1⟩:=aJ h
    subst e
    exact⟨_,rfl,rfl,hc,.inr ⟨rfl,h1⟩⟩
   ·cases h
theorem vE{t:TypeId}(hu:P.underlying t=some .bool)(x y:Bool)(w:World):(Op.equal t (.bool x) (.bool y)).run P w= .ok (x==y) w:=by
 unfold Op.equal
 obtain⟨n,hn⟩: ∃n,Op.maxDepth=n+1:=⟨9999,rfl⟩
 rw[hn]
 simp[Op.equalIn,run_underlying hu]
theorem run_eql_bool{t:TypeId}(hu:P.underlying t=some .bool)(x y:Bool):(binOp .eql t (.bool x) (.bool y)).run P w= .ok (.bool (x==y)) w:=by
 simp[binOp,vE hu]
theorem run_neq_bool{t:TypeId}(hu:P.underlying t=some .bool)(x y:Bool):(binOp .neq t (.bool x) (.bool y)).run P w= .ok (.bool (!(x==y))) w:=by
 simp[binOp,vE hu]
theorem Wd(x y:ByteArray):(x.toList==y.toList)=decide (x.toList=y.toList):=by
 rw[pT];simp
theorem DB{t:TypeId}(x y:ByteArray):(binOp .eql t (.string x) (.string y)).run P w= .ok (.bool (decide (x.toList=y.toList))) w:=by
 simp[binOp,Op.stringOp,Wd]
theorem DC{t:TypeId}(x y:ByteArray):(binOp .neq t (.string x) (.string y)).run P w= .ok (.bool (!decide (x.toList=y.toList))) w:=by
 simp[binOp,Op.stringOp,Wd]
theorem KG(hE:EnvTy P E)(hc:Core c σ a.tmps w M ν){b:BinOp}{t t':TypeId}{x y:Operand}(ho:o.op= .binOp b t x y t'){K:eo α}
  (h:Dj (σ.ρ x) (fun τ x=>Dj (σ.ρ y) fun υ y=>xR (E.ty t) b τ x υ y λv=>K v [] [])=some r) (hn:dt c σ a o w M ν K r next):o.wp P a w next Q:=by
 have hx:=hc.ev x
 have hy:=hc.ev y
 unfold Dj at h
 split at h
 ·rename_i τ x' Sc
  split at h
  ·rename_i υ y' hye
   rw[Sc]at hx;rw[hye]at hy
   rcases IP h with⟨k,k',m,n,e1,e2,h1⟩|⟨z,e2,ht,hcm,h1⟩
   ·rw[e1]at hx;rw[e2]at hy
    have hx:=hx.int
    have hy:=hy.int
    cases hs:Nx b
    ·rw[hs]at h1
     replace h1:(if k=k' then oG b k m n (λv=>K v [] [])else none)=some r:=h1
     split at h1
     ·rename_i hk;subst hk
      obtain⟨v,u,hK,cr,hVR⟩:=BL (P:=P) (w:=w) (M:=M) (ν:=ν) (t:=t) h1
      exact aA (lN ho (by rw[hx,hy];exact k8 w) (by rw[hx,hy];exact cr)) (hn _ [] [] _ _ _ _ hK (.refl hc.mem) (hVR _))
     ·cases h1
    ·rw[hs]at h1
     replace h1:Nw b k m n (λv=>K v [] [])=some r:=h1
     obtain⟨z,hK,cr⟩:=IN (P:=P) (w:=w) (k':=k') (t:=t) h1
     exact aA (lN ho (by rw[hx,hy];exact k8 w) (by rw[hx,hy];exact cr)) (hn _ [] [] _ _ _ _ hK (.refl hc.mem) (.mkInt _ _))
   ·rw[e2]at hy
    have key:(eqGuard b t x y (a.eval x) (a.eval y)).run P w= .ok () w∧(binOp .eql t (a.eval x) (a.eval y)).run P w= .ok (.bool (k5 τ x' z)) w∧(binOp .neq t (a.eval x) (a.eval y)).run P w= .ok (.bool (!k5 τ x' z)) w:=by
     by_cases xX:τ.isAgg=true
     ·simp only[VR]at hx hy
      exact hE.eq t τ ht hcm xX w M _ _ _ _ b x y hx hy
     ·have hl:=hE.ty t τ ht
      cases τ with
      |int k=>
       rw[hx.int,hy.int]
       refine⟨k8 w,?_,?_⟩
       ·simp[binOp,Op.intCmp,k5,fF];rfl
       ·simp[binOp,Op.intCmp,k5,fF];rfl
      |bool=>rw[hx.bool,hy.bool];exact⟨uF w,run_eql_bool hl.bool _ _,run_neq_bool hl.bool _ _⟩
      |str=>rw[hx.str,hy.str];exact⟨wE w,by rw[DB];simp[k5,xQ],by rw[DC];simp[k5,xQ]⟩
      |slice e=>simp[Ty.comparable]at hcm
      |unit=>simp[Ty.isAgg]at xX
      |pair _ _=>simp[Ty.isAgg]at xX
      |arr _ _=>simp[Ty.isAgg]at xX
    obtain⟨hg,h2,h3⟩:=key
    rcases h1 with⟨rfl,hK⟩|⟨rfl,hK⟩
    ·exact aA (lN ho hg h2) (hn _ [] [] _ _ _ _ hK (.refl hc.mem) (.oJ _))
    ·exact aA (lN ho hg h3) (hn _ [] [] _ _ _ _ hK (.refl hc.mem) (.oJ _))
  ·cases h
 ·cases h
theorem NL(hc:Core c σ a.tmps w M ν){u:UnOp}{t:TypeId}{x:Operand}(ho:o.op= .unOp u t x){K:eo α}
  (h:IA u (σ.ρ x) (λv=>K v [] [])=some r) (hn:dt c σ a o w M ν K r next):o.wp P a w next Q:=by
 have hx:=hc.ev x
 unfold IA at h
 split at h
 ·rename_i k n Sc
  rw[Sc]at hx
  refine aA (ql ho (v:= .int k (k.wrap (0-n))) ?_) (hn _ [] [] _ _ _ _ h (.refl hc.mem) (by rw[xO];exact .mkInt _ _))
  rw[hx.int];simp[Op.unary,Op.intArith]
 ·rename_i k n Sc
  rw[Sc]at hx
  refine aA (ql ho (v:= .int k (oD .xor k (if k.signed then-1 else k.max) n)) ?_) (hn _ [] [] _ _ _ _ h (.refl hc.mem) (.mkInt _ _))
  rw[hx.int,oE];simp[Op.unary,Op.intBits]
 ·rename_i b Sc
  rw[Sc]at hx
  refine aA (ql ho (v:= .bool (!b)) ?_) (hn _ [] [] _ _ _ _ h (.refl hc.mem) (.oJ _))
  rw[hx.bool];simp[Op.unary]
 ·cases h
end VM
end
section
namespace VM
open Go
variable{P:Program}{E:Env}{o:Oper}{a:Act}{w:World}{M:Nat→Prop}{ν:Nat→Value}{σ:St}{c:Ctx}{α:Type}{r:α}{next:Act→World→Prop}{Q:Exit→Act→World→Prop}
theorem jN{args:Array Operand}{ts:Array TypeId}{t:TypeId}{x:Operand}{n:Nat}(ho:o.op= .call {callee:= .builtin .len,args,argTypes:=ts})(ha:args.toList=[x])(_ht:ts.toList.head?=some t)
  (hl: ∀ty,(Builtin.len_ ts ty #[a.eval x]).run P w= .ok (goInt n) w):(execOp a.eval o).run P w= .ok (.value (.int .i64 n)) w:=by
 obtain⟨cs,hr⟩:=jn (P:=P) (ρ:=a.eval) ho (w:=w)
 rw[hr]
 have:args.map a.eval= #[a.eval x]:=by apply fE;simp[ha]
 rw[this]
 simp[builtin,hl,goInt]
theorem NM{ts:Array TypeId}{t ty:TypeId}(ht:ts[0]? =some t)(hu:P.underlying t=some .string)(s:ByteArray):(Builtin.len_ ts ty #[.string s]).run P w= .ok (goInt s.size) w:=by
 simp[Builtin.len_,ht,run_underlying hu]
theorem NN{ts:Array TypeId}{t ty e:TypeId}{n:Nat}(ht:ts[0]? =some t)(hu:P.underlying t=some (.array n e))(v:Value):(Builtin.len_ ts ty #[v]).run P w= .ok (goInt n) w:=by
 simp[Builtin.len_,ht,run_underlying hu]
theorem qZ{ts:Array TypeId}{t ty e:TypeId}(ht:ts[0]? =some t)(hu:P.underlying t=some (.slice e))(ad:Option Addr)(n cp:Nat):(Builtin.len_ ts ty #[.slice ad n cp]).run P w= .ok (goInt n) w:=by
 simp[Builtin.len_,ht,run_underlying hu]
theorem ER.yk{e:Ty}{l:List e.den}{v:Value}(h:ER w M v (.own e l)): ∃ad cp,v= .slice ad l.length cp:=by
 simp only[ER]at h
 rcases h with⟨rfl,a,hv⟩|⟨b,cs,t,cap,hv,_⟩
 ·exact⟨a,0,hv⟩
 ·exact⟨_,cap,hv⟩
theorem ER.KH{e:Ty}{l:List e.den}{v:Value}(h:ER w M v (.ke e l)): ∃ad cp,v= .slice ad l.length cp:=by
 simp only[ER]at h
 have h:=h.1
 simp only[Rd,dx,dR]at h
 obtain⟨a,cap,hv,_⟩:=h
 exact⟨a,cap,hv⟩
theorem Sd(hE:EnvTy P E)(hc:Core c σ a.tmps w M ν){args:Array Operand}{ts:Array TypeId}{x:Operand}(ho:o.op= .call {callee:= .builtin .len,args,argTypes:=ts})(ha:args.toList=[x]){K:eo α}{τ:Ty}
  (ht:(ts.toList.head?).bind E.ty=some τ) (h:Dl τ (σ.ρ x) σ.H K=some r) (hn:dt c σ a o w M ν K r next):o.wp P a w next Q:=by
 obtain⟨t,HM,NK⟩:=qR.1 ht
 have Vf:ts[0]? =some t:=by rw[←HM,←eI,List.head?_eq_getElem?]
 have hl:=hE.ty t τ NK
 have hv:=hc.ev x
 unfold Dl at h
 split at h
 ·rename_i e e' l hx
  obtain⟨_,hu,_⟩:=hl.slice
  rw[hx]at hv
  simp only[VR]at hv
  have hv:=V.slice.1 hv
  simp only[Rd,dx,dR]at hv
  obtain⟨ad,cap,hv,_⟩:=hv
  refine aA (jN ho ha HM (n:=ℓ l) λty=>by rw[hv];exact qZ Vf hu _ _ _) (hn _ [] [] _ _ _ _ h (.refl hc.mem) (.mkInt _ _))
 ·rename_i n e n' e' l hx
  obtain⟨_,hu,_⟩:=hl.arr
  refine aA (jN ho ha HM (n:=n) λty=>NN Vf hu _) (hn _ [] [] _ _ _ _ h (.refl hc.mem) (.mkInt _ _))
 ·rename_i s hx
  rw[hx]at hv
  refine aA (jN ho ha HM (n:=ByteArray.size s) λty=>by rw[hv.str];exact NM Vf hl.str _) (hn _ [] [] _ _ _ _ h (.refl hc.mem) (.mkInt _ _))
 ·rename_i e hx
  obtain⟨_,hu,_⟩:=hl.slice
  rw[hx]at hv
  simp only[VR]at hv
  obtain⟨ad,hv⟩:=hv
  refine aA (jN ho ha HM (n:=0) λty=>by rw[hv];exact qZ Vf hu _ _ _) (hn _ [] [] _ _ _ _ h (.refl hc.mem) (.mkInt _ _))
 ·rename_i e id hx
  obtain⟨_,hu,_⟩:=hl.slice
  rw[hx]at hv
  simp only[VR]at hv
  split at h
  ·rename_i e' l aF
   obtain⟨ad,cap,hh⟩:=(hc.mem.fM id _ aF).yk
   refine aA (jN ho ha HM (n:=l.length) λty=>by rw[hv.2,hh];exact qZ Vf hu _ _ _) (hn _ [id] [] _ _ _ _ h (.refl hc.mem) (.mkInt _ _))
  ·rename_i e' l aF
   obtain⟨ad,cap,hh⟩:=(hc.mem.fM id _ aF).KH
   refine aA (jN ho ha HM (n:=l.length) λty=>by rw[hv.2,hh];exact qZ Vf hu _ _ _) (hn _ [id] [] _ _ _ _ h (.refl hc.mem) (.mkInt _ _))
  ·cases h
 ·cases h
theorem DD{H:Nat→Option aI}(up:Bool): ∀(xs:List aM) (x:aM) (v:Value) (vs:List Value) (K:aM→Option α),VR w M H ν x v→fH w M H ν xs vs→M6 up x xs K=some r→
  ∃x' v',K x'=some r∧(vs.foldlM (if up then Builtin.max2 else Builtin.min2) v).run P w= .ok v' w∧VR w M H ν x' v'
 |[],x,v,[],K,hx,_,h=>⟨x,v,h,by simp,hx⟩
 |[],_,_,_::_,_,_,hs,_=>by simp[fH]at hs
 |_::_,_,_,[],_,_,hs,_=>by simp[fH]at hs
 |y::xs,x,v,u::vs,K,hx,hs,h=>by
  simp only[fH]at hs
  obtain⟨hy,hs⟩:=hs
  unfold M6 at h
  obtain⟨k,m,e1,h1⟩:=jo h
  obtain⟨k',n,e2,h2⟩:=jo h1
  clear h h1
  split at h2
  ·rename_i hk
   subst hk
   rw[e1]at hx;rw[e2]at hy
   have hx:=hx.int
   have hy:=hy.int
   obtain⟨x',v',hK,cr,hV⟩:=DD up xs _ (.int k (cond up (mx m n) (mn m n))) vs K (.mkInt _ _) hs h2
   refine⟨x',v',hK,?_,hV⟩
   rw[List.foldlM_cons,Sem.run_bind]
   have:((if up then Builtin.max2 else Builtin.min2) v u).run P w= .ok (.int k (cond up (mx m n) (mn m n))) w:=by
    rw[hx,hy]
    cases up
    ·simp[Builtin.min2,VV]
    ·simp[Builtin.max2,VU]
   rw[this]
   exact cr
  ·cases h2
theorem QZ(hc:Core c σ a.tmps w M ν)(up:Bool){args:Array Operand}{ts:Array TypeId}{x:Operand}{xs:List Operand}(ho:o.op= .call {callee:= .builtin (if up then .max else .min),args,argTypes:=ts})(ha:args.toList=x::xs){K:eo α}
  (h:M6 up (σ.ρ x) (xs.map σ.ρ) (λv=>K v [] [])=some r) (hn:dt c σ a o w M ν K r next):o.wp P a w next Q:=by
 obtain⟨x',v',hK,cr,hV⟩:=DD (P:=P) up (xs.map σ.ρ) (σ.ρ x) (a.eval x) (xs.map a.eval) _ (hc.ev x) (hc.Z0 xs) h
 refine aA ?_ (hn _ [] [] _ _ _ _ hK (.refl hc.mem) hV)
 obtain⟨cs,hr⟩:=jn (P:=P) (ρ:=a.eval) ho (w:=w)
 rw[hr]
 have hm:(args.map a.eval).toList=a.eval x::xs.map a.eval:=by simp[ha]
 cases up
 ·simp only[fD,dW,builtin,Builtin.min_,hm,Sem.run_bind]at cr ⊢
  rw[cr];simp
 ·simp only[fO,builtin,Builtin.max_,hm,Sem.run_bind]at cr ⊢
  rw[cr];simp
theorem Ac{ρ:Operand→Value}{t:TypeId}{x i:Operand}(ho:o.op= .index t x i){k:IntKind}{n:Int}{s:ByteArray}
  (hu:P.underlying t=some .string) (hx:ρ x= .string s) (hi:ρ i= .int k n) (h0:0≤n) (h1:n<(s.size:Int)):
  (execOp ρ o).run P w= .ok (.value (.int .u8 ((s.data.getD n.toNat 0).toNat:Int))) w:=by
 have dv:n.toNat<s.size:=ω
 have hs:s[n.toNat]? =some (s[n.toNat]'dv):=by simp[dv]
 have he:s[n.toNat]'dv=s.data.getD n.toNat 0:=by
  have qq:n.toNat<s.data.size:=dv
  rw[Array.getD,dif_pos qq];rfl
 simp[execOp,ho,hx,hi,Instr.index,asIntOf,run_underlying hu,h0,hs,he]
theorem KI(hE:EnvTy P E)(hc:Core c σ a.tmps w M ν){t:TypeId}{x i:Operand}(ho:o.op= .index t x i){K:eo α}{τ:Ty}(ht:E.ty t=some τ)
  (h:qd τ (σ.ρ x) (σ.ρ i) (λv=>K v [] [])=some r) (hn:dt c σ a o w M ν K r next):o.wp P a w next Q:=by
 unfold qd at h
 obtain⟨k,n,hi,h2⟩:=jo h
 clear h
 have h:=h2
 clear h2
 have HK:=hc.ev i
 rw[hi]at HK
 have HK:=HK.int
 have hv:=hc.ev x
 have rK:=hE.ty t τ ht
 split at h
 ·rename_i len e υ l hx
  obtain⟨e',Gc,hle⟩:=rK.arr
  obtain⟨e1,h⟩:=aJ h
  subst e1
  obtain⟨hJ,h⟩:=bn h
  obtain⟨h0,h1⟩:=oK hJ
  rw[hx]at hv
  simp only[VR]at hv
  obtain⟨cs,hu,hr⟩:=hv.agg rfl
  have fN:=hr.idx (i:=n.toNat) ω
  refine aA (Aa ho Gc hle hu HK h0 h1 fN) (hn _ [] [] _ _ _ _ h (.refl hc.mem) ?_)
  simp only[VR]
  exact V.aZ fN
 ·rename_i s hx
  obtain⟨hJ,h⟩:=bn h
  obtain⟨h0,h1⟩:=oK hJ
  rw[hx]at hv
  refine aA (Ac ho rK.str hv.str HK h0 h1) (hn _ [] [] _ _ _ _ h (.refl hc.mem) (.mkInt _ _))
 ·cases h
theorem iq(τ:Ty):τ.bq.length=τ.size:=(Rd.zero default (λ_=>False) τ).length
theorem wG{z:Array Value}{n i s:Nat}(hz:z.size=s)(hi:i*s+s≤n):((madeCells z n).toList.drop (i*s)).take s=z.toList:=by
 apply sZ
 intro j
 rw[iA]
 split
 ·rename_i hj
  rw[iB,eI,eI]
  simp only[madeCells,Array.getElem?_map]
  rw[Array.getElem?_range,ae ω]
  simp only[Option.map_some]
  have:(i*s+j)%z.size=j:=by rw[hz,xN,Nat.mul_add_mod,Nat.mod_eq_of_lt hj]
  rw[this,C3 ω,getElem!_pos z j ω]
 ·rename_i hj
  rw[eI,Da ω]
theorem kf.made(w:World)(M:Nat→Prop)(e:Ty){n l:Nat}(h:l*e.size≤n):kf w M e (madeCells (aZ e e.bq).cells n).toList (List.replicate l e.zero):=by
 intro i hi
 rw[dg]at hi
 have:=cE (s:=e.size) hi
 rw[wG (by rw[←aG,di,iq]) ω,di,Db]
 exact Rd.zero w M e
theorem uM{ρ:Operand→Value}{t:TypeId}{x y:Operand}(ho:o.op= .makeSlice t x y){v:Value}{w':World}(h:(Instr.makeSlice t (ρ x) (ρ y)).run P w= .ok v w'):(execOp ρ o).run P w= .ok (.value v) w':=by
 simp[execOp,ho,h]
theorem BM(hE:EnvTy P E)(hc:Core c σ a.tmps w M ν){t:TypeId}{x y:Operand}(ho:o.op= .makeSlice t x y){K:eo α}{e:Ty}(ht:E.ty t=some (.slice e)){id:Nat}
  (h:pG (σ.ρ x) (λ_ l=>pG (σ.ρ y) λ_ c=>cond (oC l c)
   (mz σ.H id (.own e []) (K (.ref id) [id] [(id,some (.own e (List.replicate l.toNat e.zero)))])) none)=some r) (hn:dt c σ a o w M ν K r next):o.wp P a w next Q:=by
 obtain⟨k,l,hx,h1⟩:=jo h
 obtain⟨k',n,hy,h2⟩:=jo h1
 clear h h1
 obtain⟨hk,h⟩:=bn h2
 obtain⟨aF,h⟩:=il h
 rw[AD]at hk
 obtain⟨h0,h1,h3⟩:=bH hk
 simp only[th]at h3
 obtain⟨e',hu,hle⟩:=(hE.ty t _ ht).slice
 obtain⟨i,hi,hs,hz,hb⟩:=hle.base
 have BN:=hc.ev x
 have tD:=hc.ev y
 rw[hx]at BN;rw[hy]at tD
 have Se:(i.bytes:Int)*n≤281474976710656:=by
  have h4:(i.bytes:Int)≤2048:=ω
  have:(i.bytes:Int)*n≤2048*n:=wW h4 ω
  omega
 have cr:=run_make (P:=P) w t e' i _ hu hi hz k k' l n h0 h1 Se ω
 have hlen:(List.replicate l.toNat e.zero).length=l.toNat:=dg
 have dP:=Tr.row hc.mem aF e' (e:=e) (cs:=madeCells (aZ e e.bq).cells (n.toNat*i.size)) (l:=List.replicate l.toNat e.zero) (cap:=n.toNat) (by rw[hlen];omega) (by simp[maxLen];omega)
  (by rw[size_madeCells,hs]) (kf.made w M e (pW ω ω))
 refine aA (uM ho (by rw[BN.int,tD.int];exact cr)) (hn _ _ _ _ _ _ _ h dP ?_)
 simp only[VR]
 exact⟨by show a8 σ.H id _ id≠none;rw[al];simp,by simp[updν]⟩
end VM
end
section
namespace VM
open Go
variable{P:Program}{E:Env}{o:Oper}{a:Act}{w:World}{M:Nat→Prop}{ν:Nat→Value}{σ:St}{c:Ctx}{α:Type}{r:α}{next:Act→World→Prop}{Q:Exit→Act→World→Prop}
theorem KJ(off:Nat)(new cs:Array Value)(h:off+new.size≤cs.size):
  (new.zipIdx.foldl (λcs (x:Value×Nat)=>cs.setIfInBounds (off+x.2) x.1) cs)=(cL cs.toList off new.toList).toArray:=by
 have h1:new.zipIdx.foldl (λcs (x:Value×Nat)=>cs.setIfInBounds (off+x.2) x.1) cs=(new.toList.zipIdx 0).foldl (λcs (x:Value×Nat)=>cs.setIfInBounds (off+x.2) x.1) cs:=by
  rw[←Array.foldl_toList,Array.toList_zipIdx]
 rw[h1]
 obtain⟨hs,hk⟩:=Great.foldl_set off new.toList 0 cs
 apply Array.ext_getElem?
 intro k
 rw[hk k,←eI (xs:=cs)]
 have hl:new.toList.length=new.size:=aG
 have hc:cs.toList.length=cs.size:=aG
 unfold cL
 rw[xx]
 by_cases h2:k<off
 ·rw[af ω,aT,ng (by rw[bV];omega),List.getElem?_take_of_lt h2]
 ·by_cases h3:k<off+new.size
  ·rw[ae ω,ng (by rw[aC,bV];omega),lH (by rw[bV];omega),bV]
   congr 1
   omega
  ·rw[af ω,lH (by rw[aC,bV];omega),aC,bV,iB]
   congr 1
   omega
theorem q7{place:Nat→Option (Nat×Nat)}{cs:Array Value}{i:Nat}{v:Value}{rest:List (Nat×Value)}{off s:Nat}(hp:place i=some (off,s))(hs:v.cells.size=s)(h:off+s≤cs.size):
  Instr.fill place cs ((i,v)::rest)=Instr.fill place (cL cs.toList off v.cells.toList).toArray rest:=by
 have h1: ¬(decide (v.cells.size≠s)||decide (off+v.cells.size>cs.size))=true:=by simp[hs];omega
 conv=>lhs;unfold Instr.fill
 rw[hp]
 simp only
 rw[af h1]
 congr 1
 exact KJ off v.cells cs ω
theorem mG(a:Act)(ps:Array (Nat×Operand)):(ps.map λ(i,x)=>(i,a.eval x)).toList=ps.toList.map λp=>(p.1,a.eval p.2):=by
 rw[Array.toList_map]
def PR(w:World)(M:Nat→Prop)(H:Nat→Option aI)(ν:Nat→Value):List (Nat×aM)→List (Nat×Value)→Prop
 |[],[]=>True
 |p::ps,q::qs=>p.1=q.1∧VR w M H ν p.2 q.2∧PR w M H ν ps qs
 |_,_=>False
theorem PR.bm{w':World}{M':Nat→Prop}{H H':Nat→Option aI}{ν':Nat→Value}(k:dq w M w' M')(g:nM H ν H' ν'): ∀{ps:List (Nat×aM)} {qs:List (Nat×Value)},PR w M H ν ps qs→PR w' M' H' ν' ps qs
 |[],[],_=>trivial
 |_::_,_::_,h=>⟨h.1,h.2.1.bm k g,PR.bm k g h.2.2⟩
 |[],_::_,h=>h.elim
 |_::_,[],h=>h.elim
theorem Core.pr(hc:Core c σ a.tmps w M ν): ∀ps:List (Nat×Operand),PR w M σ.H ν (ps.map λp=>(p.1,σ.ρ p.2)) (ps.map λp=>(p.1,a.eval p.2))
 |[]=>trivial
 |p::ps=>⟨rfl,hc.ev p.2,hc.pr ps⟩
theorem vF{e:Ty}{n:Nat}{H:Nat→Option aI}: ∀(ps:List (Nat×aM)) (qs:List (Nat×Value)) (H1:Nat→Option aI) (M:Nat→Prop) (l:List e.den) (cs:Array Value) (rd:List Nat) (ups:fu) (K:List e.den→List Nat→fu→Option α),
  Fz H H1→Mem c H1 w M ν→PR w M H1 ν ps qs→l.length=n→cs.size=n*e.size→kf w M e cs.toList l→H1=bM H ups→p9 e H n ps l rd ups K=some r→
  ∃l' qT gu M' cs',K l' qT gu=some r∧Tr c H1 w M ν (bM H gu) w M' ν∧Fz H (bM H gu)∧l'.length=n∧cs'.size=n*e.size∧kf w M' e cs'.toList l'∧
   Instr.fill (λi=>some (i*e.size,e.size)) cs qs=some cs':=by
 intro ps
 induction ps with
 |nil=>
  intro qs H1 M l cs rd ups K hz hm hp hl hs hr hH h
  cases qs with
  |cons _ _=>exact hp.elim
  |nil=>exact⟨l,rd,ups,M,cs,h,hH▸Tr.refl hm,hH▸hz,hl,hs,hr,rfl⟩
 |cons p ps ih=>
  intro qs H1 M l cs rd ups K hz hm hp hl hs hr hH h
  cases qs with
  |nil=>exact hp.elim
  |cons q qs=>
   obtain⟨h1,h2,h3⟩:=hp
   unfold p9 at h
   obtain⟨hb,h⟩:=bn h
   have dv:p.1<n:=by simpa [tf]using hb
   obtain⟨y,KK,uN,M1,h,dP,hV,Kj,_⟩:=gC hz hm h2 h
   have hlen:(q.2.cells).size=e.size:=by rw[←aG];exact hV.cells.length
   have hmul:=cE (s:=e.size) dv
   have mF:=kf.set (hr.bm dP.bm) (by rw[hl,aG,hs];exact aB _) (i:=p.1) ω hV.cells
   obtain⟨l',qT,gu,M',cs',hK,Gt,w3,zO,We,fN,hf⟩:=ih qs (bM H1 uN) M1 (l.set p.1 y) (cL cs.toList (p.1*e.size) q.2.cells.toList).toArray (KK++rd) (ups++uN) K Kj dP.mem (h3.bm dP.bm dP.goes)
    (by rw[cz];exact hl) (by rw[fa,cK (by rw[aG,aG];omega),aG,hs]) mF (by rw[dr,hH]) h
   refine⟨l',qT,gu,M',cs',hK,dP.trans Gt,w3,zO,We,fN,?_⟩
   rw[q7 (off:=p.1*e.size) (s:=e.size) (by rw[h1]) hlen ω]
   exact hf
theorem BO{τ:Ty}{H:Nat→Option aI}{place:Nat→Option (Nat×Nat)}(HN: ∀(x:τ.den) n υ y o,vy τ x n υ y o→place n=some (o,υ.size)):
  ∀(ps:List (Nat×aM)) (qs:List (Nat×Value)) (H1:Nat→Option aI) (M:Nat→Prop) (x:τ.den) (cs:Array Value) (rd:List Nat) (ups:fu) (K:τ.den→List Nat→fu→Option α),
  Fz H H1→Mem c H1 w M ν→PR w M H1 ν ps qs→Rd w M τ cs.toList x→H1=bM H ups→g8 τ H ps x rd ups K=some r→
  ∃x' qT gu M' cs',K x' qT gu=some r∧Tr c H1 w M ν (bM H gu) w M' ν∧Fz H (bM H gu)∧Rd w M' τ cs'.toList x'∧Instr.fill place cs qs=some cs'∧
   ∀m υ,ti τ m=some υ→(ps.all λp=> !(Nat.beq p.1 m))=true→(cs'.toList.drop (dO τ m)).take υ.size=(cs.toList.drop (dO τ m)).take υ.size:=by
 intro ps
 induction ps with
 |nil=>
  intro qs H1 M x cs rd ups K hz hm hp hr hH h
  cases qs with
  |cons _ _=>exact hp.elim
  |nil=>exact⟨x,rd,ups,M,cs,h,hH▸Tr.refl hm,hH▸hz,hr,rfl,λ_ _ _ _=>rfl⟩
 |cons p ps ih=>
  intro qs H1 M x cs rd ups K hz hm hp hr hH h
  cases qs with
  |nil=>exact hp.elim
  |cons q qs=>
   obtain⟨h1,h2,h3⟩:=hp
   unfold g8 at h
   obtain⟨υ,y0,of,hf,h⟩:=kz h
   obtain⟨y,KK,uN,M1,h,dP,hV,Kj,_⟩:=gC hz hm h2 h
   obtain⟨υ',y',o',k',sa,fc,uH⟩:=gD h
   obtain⟨rfl,rfl⟩:=sa.eq
   obtain⟨rfl,rfl⟩:=hf.eq
   obtain⟨e1,yl⟩:=aJ fc
   obtain⟨x',k9,_,gK⟩:=uH _ _ yl
   have hlen:(q.2.cells).size=(m3 τ p.1).size:=by rw[←aG];exact hV.cells.length
   have hb:=hf.bound
   have yf:=hr.length
   rw[aG]at yf
   obtain⟨x2,qT,gu,M',cs',hK,Gt,w3,fN,zS,Gu⟩:=ih qs (bM H1 uN) M1 x' (cL cs.toList (dO τ p.1) q.2.cells.toList).toArray (KK++rd) (ups++uN) K Kj dP.mem (h3.bm dP.bm dP.goes)
    (gK w M1 _ _ (hr.bm dP.bm) hV.cells) (by rw[dr,hH]) k9
   refine⟨x2,qT,gu,M',cs',hK,dP.trans Gt,w3,fN,?_,λm υ fc fi=> ?_⟩
   ·rw[q7 (off:=dO τ p.1) (s:=(m3 τ p.1).size) (by rw[←h1];exact HN _ _ _ _ _ hf) hlen ω]
    exact zS
   ·rw[pX,ba]at fi
    rw[Gu m υ fc fi.2]
    obtain⟨y2,o2,hf2⟩:=jm fc x
    obtain⟨e3,e4⟩:=hf2.eq
    subst e3 e4
    have gY:p.1≠m:=λe=>by have:=fi.1;rw[e,ku]at this;cases this
    have ZZ:=hf.apart hf2 gY
    have sd:=hf2.bound
    show((cL cs.toList (dO τ p.1) q.2.cells.toList).drop _).take _=_
    rw[w1 (by rw[aG];omega) (by rw[aG,aG];omega)]
theorem dN.places: ∀(τ:Ty) (fs:Array Field) (n off:Nat),dN P τ (.inr (fs,n,off))→
  ∃ps,(fs.toList.drop n).mapM (λf=>(P.info? f.type).map λi=>(f.offset,i.size))=some ps∧ ∀(x:τ.den) m υ y o,vy τ x m υ y o→ps[m]? =some (off+o,υ.size)
 | .unit,fs,n,off,h=>by
  simp only[dN]at h
  refine⟨[],?_,λx m υ y o hf=>by cases hf⟩
  rw[gd (by rw[aG];omega)];rfl
 | .pair t b,fs,n,off,h=>by
  simp only[dN]at h
  obtain⟨f,hf,ho,ha,hb⟩:=h
  obtain⟨ps,zT,zS⟩:=dN.places b fs (n+1) (off+t.size) hb
  obtain⟨i,hi,hs,_⟩:=(show gA P t f.type from ha).base
  have dv:n<fs.toList.length:=by rw[aG];exact(gM.1 hf).1
  have hfe:fs.toList[n]=f:=by rw[sX];exact(gM.1 hf).2
  refine⟨(off,t.size)::ps,?_,λx m υ y o sa=> ?_⟩
  ·rw[sR dv,s7,zT,hfe,hi]
   simp[ho,hs]
  ·cases sa with
   |here=>simp
   |there _ h'=>simp[zS _ _ _ _ _ h',kt]
 | .int _,_,_,_,h| .bool,_,_,_,h| .str,_,_,_,h| .slice _,_,_,_,h| .arr _ _,_,_,_,h=>by simp[dN]at h
theorem gA.places{τ:Ty}{t:TypeId}(h:gA P τ t)(ha:τ.isAgg=true)(hn: ∀n e,τ≠ .arr n e):
  ∃fs ps,P.underlying t=some (.struct fs)∧fs.toList.mapM (λf=>(P.info? f.type).map λi=>(f.offset,i.size))=some ps∧ ∀(x:τ.den) m υ y o,vy τ x m υ y o→ps[m]? =some (o,υ.size):=by
 cases τ with
 |unit=>
  simp only[gA,dN]at h
  obtain⟨_,fs,hu,hs⟩:=h
  refine⟨fs,[],hu,?_,λx m υ y o hf=>by cases hf⟩
  have:fs.toList=[]:=oy (by rw[aG];exact hs)
  rw[this];rfl
 |pair t' b=>
  simp only[gA,dN]at h
  obtain⟨_,fs,f,hu,hf,ho,ha',hb⟩:=h
  have hg:dN P (.pair t' b) (.inr (fs,0,0)):=by
   simp only[dN]
   exact⟨f,hf,ho,ha',by simpa using hb⟩
  obtain⟨ps,zT,zS⟩:=dN.places _ fs 0 0 hg
  exact⟨fs,ps,hu,zT,λx m υ y o sa=>by simpa using zS x m υ y o sa⟩
 |arr n e=>exact absurd rfl (hn n e)
 |int _=>simp[Ty.isAgg]at ha
 |bool=>simp[Ty.isAgg]at ha
 |str=>simp[Ty.isAgg]at ha
 |slice _=>simp[Ty.isAgg]at ha
theorem oL{ρ:Operand→Value}{t:TypeId}{ps:Array (Nat×Operand)}(ho:o.op= .build t ps){v:Value}(h:(Instr.build t (ps.map λ(i,x)=>(i,ρ x))).run P w= .ok v w):(execOp ρ o).run P w= .ok (.value v) w:=by
 simp[execOp,ho,h]
theorem tF{ρ:Operand→Value}{t:TypeId}{n:Nat}{ps:Array (Nat×Operand)}(ho:o.op= .buildSlice t n ps){v:Value}{w':World}(h:(Instr.buildSlice t n (ps.map λ(i,x)=>(i,ρ x))).run P w= .ok v w'):(execOp ρ o).run P w= .ok (.value v) w':=by
 simp[execOp,ho,h]
theorem VR.HO{H:Nat→Option aI}{τ:Ty}(ha:τ.isAgg=true){cs:Array Value}{x:τ.den}(h:Rd w M τ cs.toList x):VR w M H ν (.val τ x) (.agg cs):=by
 simp only[VR,V];rw[ae ha];exact⟨cs,rfl,h⟩
theorem BP(hE:EnvTy P E)(hc:Core c σ a.tmps w M ν){t:TypeId}{ps:Array (Nat×Operand)}(ho:o.op= .build t ps){K:eo α}{n:Nat}{e:Ty}(ht:E.ty t=some (.arr n e))
  (h:p9 e σ.H n (partsOf σ.ρ ps) (List.replicate n e.zero) [] [] (λl rd ups=>K (.val (.arr n e) l) rd ups)=some r) (hn:dt c σ a o w M ν K r next):o.wp P a w next Q:=by
 have hl:=hE.ty t _ ht
 obtain⟨e',hu,hle⟩:=hl.arr
 obtain⟨i,hi,hs,hz,_⟩:=hl.base
 obtain⟨ie,Vg,Vh,_⟩:=hle.base
 have Vi:=Rd.arr.1 (Rd.zero w M (.arr n e))
 obtain⟨l',qT,gu,M',cs',hK,dP,w3,zO,We,fN,hf⟩:=vF (partsOf σ.ρ ps) (ps.toList.map λ(p:Nat×Operand)=>(p.1,a.eval p.2)) σ.H M (List.replicate n e.zero) (Ty.bq (.arr n e)).toArray [] [] _ (.refl _) hc.mem (hc.pr ps.toList)
  (by rw[dg]) (by rw[fa];exact Vi.2.1) Vi.2.2 rfl h
 refine aA (oL ho (run_build w t _ cs' ?_)) (hn _ _ _ _ _ _ _ hK dP (VR.HO rfl (Rd.arr.2 ⟨zO,by rw[aG];exact We,fN⟩)))
 unfold Program.built
 rw[hi,hu]
 simp only[hz,Vg,Vh,mG]
 exact hf
theorem wH(hE:EnvTy P E)(hc:Core c σ a.tmps w M ν){t:TypeId}{ps:Array (Nat×Operand)}(ho:o.op= .build t ps){K:eo α}{τ:Ty}(ht:E.ty t=some τ)(NO: ∀n e,τ≠ .arr n e)
  (h:cond τ.isAgg (g8 τ σ.H (partsOf σ.ρ ps) τ.zero [] [] (λl rd ups=>K (Ny E (partsOf σ.ρ ps) τ l) rd ups)) none=some r) (hn:dt c σ a o w M ν K r next):o.wp P a w next Q:=by
 obtain⟨xX,h⟩:=bn h
 have hl:=hE.ty t _ ht
 obtain⟨fs,pl,hu,zT,HN⟩:=hl.places xX NO
 obtain⟨i,hi,hs,hz,_⟩:=hl.base
 obtain⟨l',qT,gu,M',cs',hK,dP,w3,fN,hf,Gu⟩:=BO (place:=(pl.toArray[·]?)) (λx n υ y o hf=>by simpa using HN x n υ y o hf) (partsOf σ.ρ ps) (ps.toList.map λ(p:Nat×Operand)=>(p.1,a.eval p.2)) σ.H M τ.zero τ.bq.toArray [] [] _ (.refl _) hc.mem (hc.pr ps.toList)
  (Rd.zero w M τ) rfl h
 have Wf:VR w M' (bM σ.H gu) ν (Ny E (partsOf σ.ρ ps) τ l') (.agg cs'):=by
  unfold Ny
  split
  ·rename_i n e lB
   cases fi:(partsOf σ.ρ ps).all λp=> !(Nat.beq p.1 n)
   ·exact VR.HO xX fN
   ·have hq:=BI lB
    show VR w M' (bM σ.H gu) ν (.BB τ l' n) (.agg cs')
    have hv:=VR.HO (H:=bM σ.H gu) (ν:=ν) xX fN
    simp only[VR]at hv ⊢
    refine⟨hv,cs',none,rfl,?_⟩
    have Vj:ti τ n=some (.slice e):=by
     unfold dE at hq
     split at hq
     ·rename_i a ha
      rw[ha]
      have:=bH hq
      rw[this]
     ·cases hq
    have h2:=Gu n _ Vj fi
    have h3:=uG hq
    simp only[bs,ik]at h3
    have h4:=cN (λl=>l[0]?) h2
    simp only[iA,iB,ik]at h4
    rw[ae (show 0<(Ty.slice e).size from Nat.one_pos),ae (show 0<(Ty.slice e).size from Nat.one_pos)]at h4
    rw[h4];exact h3
  ·exact VR.HO xX fN
 refine aA (oL ho (run_build w t _ cs' ?_)) (hn _ _ _ _ _ _ _ hK dP Wf)
 unfold Program.built
 rw[hi,hu]
 have Vk:(aZ τ τ.bq).cells=τ.bq.toArray:=by apply fE;rw[di]
 simp only[hz,zT,mG,Vk]
 exact hf
theorem Gv{ps:List (Nat×aM)}{τ:Ty}{n k:Nat}(h:BC E ps τ=some (n,k)):(∃e,dE [.fG n] τ (.slice e)=true)∧(∀p∈ps,p.1=n→p.2= .ref k)∧ ∃p∈ps,p.1=n:=by
 unfold BC at h
 split at h
 ·rename_i m e II lB
  split at h
  ·rename_i i j hf
   cases h
   refine⟨⟨e,BI lB⟩,λp hp Na=> ?_,?_⟩
   ·have:p∈ps.filter λp=>Nat.beq p.1 n:=pU.2 ⟨hp,by rw[Na];exact ku n⟩
    rw[hf,dw]at this
    rw[this]
   ·have:(i,aM.ref k)∈ps.filter λp=>Nat.beq p.1 n:=by rw[hf];simp
    obtain⟨h1,h2⟩:=pU.1 this
    exact⟨_,h1,df h2⟩
  ·cases h
 ·cases h
theorem Ad{τ:Ty}{H:Nat→Option aI}{place:Nat→Option (Nat×Nat)}(HN: ∀(x:τ.den) n υ y o,vy τ x n υ y o→place n=some (o,υ.size)){n k:Nat}{e:Ty}(hq:ti τ n=some (.slice e))(uE:(ν k).cells= #[ν k]):
  ∀(ps:List (Nat×aM)) (qs:List (Nat×Value)) (H1:Nat→Option aI) (M:Nat→Prop) (x:τ.den) (cs real:Array Value) (u:Value) (rd:List Nat) (ups:fu) (K:τ.den→List Nat→fu→Option α),
  Fz H H1→Mem c H1 w M ν→PR w M H1 ν ps qs→(∀p∈ps,p.1=n→p.2= .ref k)→Rd w M τ cs.toList x→real.toList=cL cs.toList (dO τ n) [u]→H1=bM H ups→g8 τ H (qg n ps) x rd ups K=some r→
  ∃x' qT gu M' u',∃(cs' tG:Array Value),K x' qT gu=some r∧Tr c H1 w M ν (bM H gu) w M' ν∧Fz H (bM H gu)∧Rd w M' τ cs'.toList x'∧Instr.fill place real qs=some tG∧tG.toList=cL cs'.toList (dO τ n) [u']∧
   (u'=ν k∨(u'=u∧ ∀p∈ps,p.1≠n)):=by
 intro ps
 induction ps with
 |nil=>
  intro qs H1 M x cs real u rd ups K hz hm hp fi hr hu hH h
  cases qs with
  |cons _ _=>exact hp.elim
  |nil=>exact⟨x,rd,ups,M,u,cs,real,h,hH▸Tr.refl hm,hH▸hz,hr,rfl,hu,.inr ⟨rfl,λ_ h=>by simp at h⟩⟩
 |cons p ps ih=>
  intro qs H1 M x cs real u rd ups K hz hm hp fi hr hu hH h
  cases qs with
  |nil=>exact hp.elim
  |cons q qs=>
   obtain⟨h1,h2,h3⟩:=hp
   have Q0: ∀p∈ps,p.1=n→p.2= .ref k:=λp hp=>fi p (aU _ hp)
   obtain⟨yn,on,Wg⟩:=jm hq x
   have Q1:=Wg.bound
   have Z1:=Wg.eq.2
   subst Z1
   rw[show(Ty.slice e).size=1 from rfl]at Q1
   have yf:=hr.length
   rw[aG]at yf
   have Wh:real.size=cs.size:=by
    have h0:dO τ n+[u].length≤cs.toList.length:=by rw[aG];exact iC Q1 (Nat.le_of_eq yf.symm)
    rw[←aG,hu,cK h0,aG]
   by_cases Na:p.1=n
   ·
    have BQ:=fi p bg Na
    have hb:Nat.beq p.1 n=true:=by rw[Na];exact ku n
    have h:g8 τ H ((p.1,aM.emp)::qg n ps) x rd ups K=some r:=by
     have e1:qg n (p::ps)=(p.1,aM.emp)::qg n ps:=by simp[qg,hb]
     rw[e1]at h;exact h
    unfold g8 at h
    obtain⟨υ,y0,of,hf,h⟩:=kz h
    have hve:VR w M H1 ν .emp (.slice none 0 0):=by simp only[VR];exact⟨none,rfl⟩
    obtain⟨y,KK,uN,M1,h,dP,hV,Kj,_⟩:=gC hz hm hve h
    obtain⟨υ',y',o',k',sa,fc,uH⟩:=gD h
    obtain⟨rfl,rfl⟩:=sa.eq
    obtain⟨rfl,rfl⟩:=hf.eq
    obtain⟨e1,yl⟩:=aJ fc
    obtain⟨x',k9,_,gK⟩:=uH _ _ yl
    have mb:(m3 τ p.1).size=1:=by
     have h5:=Wg.eq.1
     rw[Na,←h5];rfl
    rw[BQ]at h2
    simp only[VR]at h2
    have hx2:=gK w M1 _ _ (hr.bm dP.bm) hV.cells
    have hcn:(Value.slice none 0 0).cells.toList=[.slice none 0 0]:=rfl
    rw[hcn]at hx2
    obtain⟨x2,qT,gu,M',u',cs',tG,hK,Gt,w3,fN,zS,IQ,Wi⟩:=ih qs (bM H1 uN) M1 x' (cL cs.toList (dO τ p.1) [.slice none 0 0]).toArray (cL real.toList (dO τ n) [ν k]).toArray (ν k) (KK++rd) (ups++uN) K Kj dP.mem (h3.bm dP.bm dP.goes) Q0
     hx2 (by
      show cL real.toList (dO τ n) [ν k]=cL (cL cs.toList (dO τ p.1) [.slice none 0 0]) (dO τ n) [ν k]
      rw[hu,Na,oh (by rw[aG];omega),oh (by rw[aG];omega)]) (by rw[dr,hH]) k9
    refine⟨x2,qT,gu,M',u',cs',tG,hK,dP.trans Gt,w3,fN,?_,IQ,.inl (Wi.elim id λh=>h.1)⟩
    have ND:place q.1=some (dO τ n,1):=by rw[←h1,Na];exact HN _ _ _ _ _ Wg
    rw[q7 (off:=dO τ n) (s:=1) ND (by rw[h2.2,uE];rfl) ω,h2.2,uE]
    exact zS
   ·have hb:Nat.beq p.1 n=false:=by
     cases hb:Nat.beq p.1 n
     ·rfl
     ·exact absurd (df hb) Na
    have h:g8 τ H (p::qg n ps) x rd ups K=some r:=by
     have e1:qg n (p::ps)=p::qg n ps:=by simp[qg,hb]
     rw[e1]at h;exact h
    unfold g8 at h
    obtain⟨υ,y0,of,hf,h⟩:=kz h
    obtain⟨y,KK,uN,M1,h,dP,hV,Kj,_⟩:=gC hz hm h2 h
    obtain⟨υ',y',o',k',sa,fc,uH⟩:=gD h
    obtain⟨rfl,rfl⟩:=sa.eq
    obtain⟨rfl,rfl⟩:=hf.eq
    obtain⟨e1,yl⟩:=aJ fc
    obtain⟨x',k9,_,gK⟩:=uH _ _ yl
    have hlen:(q.2.cells).size=(m3 τ p.1).size:=by rw[←aG];exact hV.cells.length
    have hbf:=hf.bound
    have ZZ:=hf.apart Wg Na
    rw[show(Ty.slice e).size=1 from rfl]at ZZ
    obtain⟨x2,qT,gu,M',u',cs',tG,hK,Gt,w3,fN,zS,IQ,Wi⟩:=ih qs (bM H1 uN) M1 x' (cL cs.toList (dO τ p.1) q.2.cells.toList).toArray (cL real.toList (dO τ p.1) q.2.cells.toList).toArray u (KK++rd) (ups++uN) K Kj dP.mem (h3.bm dP.bm dP.goes) Q0
     (gK w M1 _ _ (hr.bm dP.bm) hV.cells) (by
      show cL real.toList (dO τ p.1) q.2.cells.toList=cL (cL cs.toList (dO τ p.1) q.2.cells.toList) (dO τ n) [u]
      rw[hu]
      have hlu:[u].length=1:=rfl
      have HQ:q.2.cells.toList.length=(m3 τ p.1).size:=by rw[aG];exact hlen
      exact Dx (a:=[u]) (b:=q.2.cells.toList) (by rw[hlu,HQ];omega) (by rw[hlu,aG];omega) (by rw[HQ,aG];omega)) (by rw[dr,hH]) k9
    refine⟨x2,qT,gu,M',u',cs',tG,hK,dP.trans Gt,w3,fN,?_,IQ,Wi.imp id λh=>⟨h.1,λp' HE=>(aV.1 HE).elim (λe=>e▸Na) (h.2 p')⟩⟩
    rw[q7 (off:=dO τ p.1) (s:=(m3 τ p.1).size) (by rw[←h1];exact HN _ _ _ _ _ hf) hlen ω]
    exact zS
theorem DE(hE:EnvTy P E)(hc:Core c σ a.tmps w M ν){t:TypeId}{ps:Array (Nat×Operand)}(ho:o.op= .build t ps){K:eo α}{τ:Ty}(ht:E.ty t=some τ)(NO: ∀n e,τ≠ .arr n e){n k:Nat}(hs:BC E (partsOf σ.ρ ps) τ=some (n,k))
  (h:(match σ.H k with
   |some (.own _ _)=>cond τ.isAgg (g8 τ σ.H (qg n (partsOf σ.ρ ps)) τ.zero [] [] λx rd ups=>K (.zZ τ x n k) (k::rd) ups) none
   |_=>none)=some r) (hn:dt c σ a o w M ν K r next):o.wp P a w next Q:=by
 obtain⟨⟨e,hq⟩,fi,p0,Vl,aaG⟩:=Gv hs
 split at h
 ·rename_i e' l hk
  obtain⟨xX,h⟩:=bn h
  have Vj:ti τ n=some (.slice e):=by
   unfold dE at hq
   split at hq
   ·rename_i a ha
    rw[ha]
    rw[show a= .slice e from bH hq]
   ·cases hq
  have uE:(ν k).cells= #[ν k]:=by
   have:=hc.mem.fM k _ hk
   simp only[ER]at this
   rcases this with⟨_,ad,hv⟩|⟨b,cs,t,cap,hv,_⟩<;>rw[hv]<;>rfl
  have hl:=hE.ty t _ ht
  obtain⟨fs,pl,hu,zT,HN⟩:=hl.places xX NO
  obtain⟨i,hi,mb,hz,_⟩:=hl.base
  have Ge:τ.bq[dO τ n]? =some (.slice none 0 0):=by simpa [bs]using uG hq
  obtain⟨x',qT,gu,M',u',cs',tG,hK,dP,w3,fN,hf,IQ,Wi⟩:=Ad (place:=(pl.toArray[·]?)) (λx n υ y o hf=>by simpa using HN x n υ y o hf) Vj uE (partsOf σ.ρ ps) (ps.toList.map λ(p:Nat×Operand)=>(p.1,a.eval p.2)) σ.H M τ.zero τ.bq.toArray τ.bq.toArray (.slice none 0 0) [] [] _ (.refl _) hc.mem (hc.pr ps.toList) fi
   (Rd.zero w M τ) (xS Ge).symm rfl h
  have hu2:u'=ν k:=Wi.elim id λh=>absurd aaG (h.2 p0 Vl)
  subst hu2
  refine aA (oL ho (run_build w t _ tG ?_)) (hn _ _ _ _ _ _ _ hK dP ?_)
  ·unfold Program.built
   rw[hi,hu]
   have Vk:(aZ τ τ.bq).cells=τ.bq.toArray:=by apply fE;rw[di]
   simp only[hz,zT,mG,Vk]
   exact hf
  ·simp only[VR]
   refine⟨tG,cs'.toList,rfl,fN,IQ,?_,lZ hq⟩
   obtain⟨e1,yd,_⟩:=dP.goes.fM k _ hk
   rw[yd];simp
 ·cases h
theorem Ae(hE:EnvTy P E)(hc:Core c σ a.tmps w M ν){t:TypeId}{n:Nat}{ps:Array (Nat×Operand)}(ho:o.op= .buildSlice t n ps){K:eo α}{e:Ty}(ht:E.ty t=some (.slice e)){id:Nat}
  (h:cond (Nat.ble (n*(e.size+1)) 16777216) (mz σ.H id (.own e []) (p9 e σ.H n (partsOf σ.ρ ps) (List.replicate n e.zero) [] [] λl rd ups=>K (.ref id) (id::rd) (ups++[(id,some (.own e l))]))) none=some r)
  (hn:dt c σ a o w M ν K r next):o.wp P a w next Q:=by
 obtain⟨hb,h⟩:=bn h
 obtain⟨aF,h⟩:=il h
 have hb:=xy hb
 rw[Nat.mul_add,Nat.mul_one]at hb
 obtain⟨e',hu,hle⟩:=(hE.ty t _ ht).slice
 obtain⟨ie,Vg,Vh,hz,_⟩:=hle.base
 obtain⟨l',qT,gu,M',cs',hK,dP,w3,zO,We,fN,hf⟩:=vF (partsOf σ.ρ ps) (ps.toList.map λ(p:Nat×Operand)=>(p.1,a.eval p.2)) σ.H M (List.replicate n e.zero) (madeCells (aZ e e.bq).cells (n*e.size)) [] [] _ (.refl _) hc.mem (hc.pr ps.toList)
  (by rw[dg]) (size_madeCells _ _) (kf.made w M e (aB _)) rfl h
 have R1:bM σ.H gu id=none:=w3.none aF
 have qm:=dP.trans (Tr.row dP.mem R1 e' (e:=e) (cs:=cs') (l:=l') (cap:=n) ω (by simp[maxLen];omega) We fN)
 have cr:(Instr.buildSlice t n (ps.map λ(i,x)=>(i,a.eval x))).run P w= .ok (.slice (some ⟨w.heap.size,0,none⟩) n n) (w.alloc (.cells cs' e')):=by
  by_cases h0:n*e.size=0
  ·rw[h0]at hf
   have Sf:madeCells (aZ e e.bq).cells 0=(Array.range 0).map λi:Nat=>(#[]:Array Value)[i%0]! :=by simp[madeCells]
   rw[Sf]at hf
   rw[←mG]at hf
   simp[Instr.buildSlice,run_underlying hu,Go.sizeOf,typeInfo,Vg,Vh,h0,newRow]at hf ⊢
   simp[hf]
  ·refine run_buildSlice w t e' n _ cs' ie _ hu Vg hz (by rw[Vh];omega) (by rw[Vh];exact h0) ?_
   rw[Vh,mG]
   exact hf
 refine aA (tF ho cr) (hn _ _ _ _ _ (λb=>M' b∨b=w.heap.size) (updν ν id (.slice (some ⟨w.heap.size,0,none⟩) l'.length n)) hK ?_ ?_)
 ·rw[dr];exact qm
 ·simp only[VR]
  exact⟨by rw[dr];show a8 _ id _ id≠none;rw[al];simp,by simp[updν,zO]⟩
end VM
end
section
namespace VM
open Go
variable{P:Program}{E:Env}{o:Oper}{a:Act}{w:World}{M:Nat→Prop}{ν:Nat→Value}{σ:St}{c:Ctx}{α:Type}{r:α}{next:Act→World→Prop}{Q:Exit→Act→World→Prop}
def Nb(o:Option Value)(d l:Int):Prop:=(o=none∧l=d)∨ ∃k,o=some (.int k l)
theorem kB(hc:Core c σ a.tmps w M ν){x:Option Operand}{d:Int}{k:Int→Option α}(h:rG (x.map σ.ρ) d k=some r): ∃l,k l=some r∧Nb (x.map a.eval) d l:=by
 cases x with
 |none=>exact⟨d,h,.inl ⟨rfl,rfl⟩⟩
 |some x=>
  obtain⟨i,n,hx,h⟩:=jo (h:pG (σ.ρ x) (λ_ x=>k x)=some r)
  have hv:=hc.ev x
  rw[hx]at hv
  exact⟨n,h,.inr ⟨i,by rw[←hv.int];rfl⟩⟩
theorem pt{s:Bool}{len cap:Nat}{lo hi mx:Option Value}{l h m:Int}(pK:Nb lo 0 l)(AI:Nb hi len h)(IS:Nb mx cap m)(hm:mx.isNone=true∨hi.isSome=true)
  (h0:0≤l) (h1:l≤h) (h2:h≤m) (h3:m≤cap):(Instr.sliceBounds s len cap lo hi mx).run P w= .ok (l.toNat,h.toNat,m.toNat) w:=by
 have hb: ∀(k:IntKind) (i:Int) (y:Nat) cd,0≤i→i≤y→(Instr.sliceBound (.int k i) y cd).run P w= .ok i.toNat w:=by
  intro k i y cd h1 h2
  simp[Instr.sliceBound,asIntOf,h1,h2]
 have fc:((m.toNat:Nat):Int)=m:=ω
 have hh':((h.toNat:Nat):Int)=h:=ω
 rcases IS with⟨rfl,rfl⟩|⟨km,rfl⟩
 ·rcases AI with⟨rfl,rfl⟩|⟨kh,rfl⟩
  ·rcases pK with⟨rfl,rfl⟩|⟨kl,rfl⟩
   ·simp[Instr.sliceBounds]
   ·simp[Instr.sliceBounds,hb kl l len _ h0 h1]
  ·rcases pK with⟨rfl,rfl⟩|⟨kl,rfl⟩
   ·simp[Instr.sliceBounds,hb kh h cap _ ω h2]
   ·simp[Instr.sliceBounds,hb kh h cap _ ω h2,hb kl l h.toNat _ h0 ω]
 ·rcases AI with⟨rfl,rfl⟩|⟨kh,rfl⟩
  ·simp at hm
  ·rcases pK with⟨rfl,rfl⟩|⟨kl,rfl⟩
   ·simp[Instr.sliceBounds,hb km m cap _ ω h3,hb kh h m.toNat _ ω ω]
   ·simp[Instr.sliceBounds,hb km m cap _ ω h3,hb kh h m.toNat _ ω ω,hb kl l h.toNat _ h0 ω]
theorem Af{ρ:Operand→Value}{t:TypeId}{x:Operand}{lo hi mx:Option Operand}(ho:o.op= .slice t x lo hi mx){s:ByteArray}{l h:Int}(hu:P.underlying t=some .string)(hx:ρ x= .string s)
  (pK:Nb (lo.map ρ) 0 l) (AI:Nb (hi.map ρ) s.size h) (IS:mx.isNone=true) (h0:0≤l) (h1:l≤h) (h2:h≤s.size):(execOp ρ o).run P w= .ok (.value (.string (s.extract l.toNat h.toNat))) w:=by
 have hm:mx=none:=by simpa using IS
 subst hm
 have hb:=pt (P:=P) (w:=w) (s:=false) pK AI (.inl ⟨rfl,rfl⟩) (.inl rfl) h0 h1 h2 (jk _)
 simp[execOp,ho,hx,Instr.sliceAt,Instr.slice,run_underlying hu,hb]
theorem lO{ρ:Operand→Value}{t e:TypeId}{x:Operand}{lo hi mx:Option Operand}(ho:o.op= .slice t x lo hi mx){τ:Ty}{ad:Option Addr}{len cap:Nat}{l h m:Int}(hu:P.underlying t=some (.slice e))(hle:gA P τ e)(hx:ρ x= .slice ad len cap)
  (pK:Nb (lo.map ρ) 0 l) (AI:Nb (hi.map ρ) len h) (IS:Nb (mx.map ρ) cap m) (hm:(mx.map ρ).isNone=true∨(hi.map ρ).isSome=true) (h0:0≤l) (h1:l≤h) (h2:h≤m) (h3:m≤cap):
  (execOp ρ o).run P w= .ok (.value (.slice (if m.toNat=l.toNat then ad else ad.map (·.add (l.toNat*τ.size))) (h.toNat-l.toNat) (m.toNat-l.toNat))) w:=by
 have hb:=pt (P:=P) (w:=w) (s:=true) pK AI IS hm h0 h1 h2 h3
 simp[execOp,ho,hx,Instr.sliceAt,Instr.slice,run_underlying hu,hb,cc hle]
theorem vG{x:Option Operand}(h:gi x=true)(a:Act): ∃k,x.map a.eval=some (.int k 0):=by
 unfold gi at h
 split at h
 ·rename_i k n
  have:n=0:=by simpa using h
  subst this
  exact⟨k,rfl⟩
 ·cases h
theorem Rd.cut{e:Ty}{ad:Option Addr}{len cap:Nat}{x:List e.den}(h:Rd w M (.slice e) [.slice ad len cap] x){l hh m:Int}(h0:0≤l)(h1:l≤hh)(h2:hh≤m)(hl:hh≤x.length):
  Rd w M (.slice e) [.slice (if m.toNat=l.toNat then ad else ad.map (·.add (l.toNat*e.size))) (hh.toNat-l.toNat) (m.toNat-l.toNat)] (List.drop l.toNat (List.take hh.toNat x)):=by
 simp only[Rd,dx,dR]at h ⊢
 obtain⟨a',iK,hv,hc,hr⟩:=h
 cases hv
 have hlen:ℓ (List.drop l.toNat (List.take hh.toNat x))=hh.toNat-l.toNat:=by rw[dZ,bV];omega
 refine⟨_,_,by rw[hlen],by rw[hlen];omega,λi hi=> ?_⟩
 rw[hlen]at hi
 obtain⟨b,off,ha,hb,hm,cs,m2,gK⟩:=hr (l.toNat+i) ω
 rw[af ω]
 refine⟨b,off+l.toNat*e.size,by rw[ha];simp[Addr.add_lit],hb,hm,cs,?_,?_⟩
 ·rw[show off+l.toNat*e.size+i*e.size=off+(l.toNat+i)*e.size from by rw[cI];omega];exact m2
 ·simp only[xA,List.getElem_drop,xF]at gK ⊢
  exact gK
theorem VR.emp{H:Nat→Option aI}{v:Value}:VR w M H ν .emp v↔ ∃ad,v= .slice ad 0 0:=by simp[VR]
theorem KL(hE:EnvTy P E)(hc:Core c σ a.tmps w M ν){t:TypeId}{x:Operand}{lo hi mx:Option Operand}(ho:o.op= .slice t x lo hi mx){K:eo α}{τ:Ty}(ht:E.ty t=some τ)
  (h:mB τ (lo.isNone&&gi hi&&gi mx) (σ.ρ x) (lo.map σ.ρ) (hi.map σ.ρ) (mx.map σ.ρ) σ.H K=some r) (hn:dt c σ a o w M ν K r next):o.wp P a w next Q:=by
 have rK:=hE.ty t τ ht
 have hv:=hc.ev x
 have Ge: ∀(e:Ty) (e':TypeId) (ad:Option Addr) (len cap:Nat),P.underlying t=some (.slice e')→gA P e e'→a.eval x= .slice ad len cap→(lo.isNone&&gi hi&&gi mx)=true→
   ∃Z2,(execOp a.eval o).run P w= .ok (.value (.slice Z2 0 0)) w:=by
  intro e e' ad len cap hu hle hx hz
  simp only[ba]at hz
  obtain⟨⟨h1,h2⟩,h3⟩:=hz
  have h1:lo=none:=by simpa using h1
  subst h1
  obtain⟨k2,h2⟩:=vG h2 a
  obtain⟨k3,h3⟩:=vG h3 a
  have:=lO (P:=P) (w:=w) ho hu hle hx (l:=0) (h:=0) (m:=0) (.inl ⟨rfl,rfl⟩) (.inr ⟨k2,h2⟩) (.inr ⟨k3,h3⟩) (.inr (by rw[h2];rfl)) ω ω ω ω
  exact⟨_,this⟩
 unfold mB at h
 split at h
 ·rename_i s hx
  obtain⟨hm,h⟩:=bn h
  obtain⟨l,h,pK⟩:=kB hc h
  obtain⟨hh,h,AI⟩:=kB hc h
  obtain⟨hk,h⟩:=bn h
  rw[mv]at hk
  obtain⟨h0,h1,h2,h3⟩:=bH hk
  rw[hx]at hv
  exact aA (Af ho rK.str hv.str pK AI (by simpa using hm) h0 h1 h2) (hn _ [] [] _ _ _ _ h (.refl hc.mem) (.mkStr _))
 ·rename_i e hx
  obtain⟨e',hu,hle⟩:=rK.slice
  rw[hx]at hv
  obtain⟨ad,hv⟩:=VR.emp.1 hv
  cases hz:(lo.isNone&&gi hi&&gi mx)
  ·rw[hz]at h
   replace h:cond (mx.map σ.ρ).isNone (rG (lo.map σ.ρ) 0 λl=>rG (hi.map σ.ρ) 0 λh=>cond (lz l h 0 0) (K .emp [] []) none) none=some r:=h
   obtain⟨hm,h⟩:=bn h
   obtain⟨l,h,pK⟩:=kB hc h
   obtain⟨hh,h,AI⟩:=kB hc h
   obtain⟨hk,hK⟩:=bn h
   rw[mv]at hk
   obtain⟨h0,h1,h2,h3⟩:=bH hk
   have fc:mx=none:=by simpa using hm
   subst fc
   have:=lO (P:=P) (w:=w) ho hu hle hv pK AI (.inl ⟨rfl,rfl⟩) (.inl rfl) h0 h1 (m:=0) ω ω
   refine aA this (hn _ [] [] _ _ _ _ hK (.refl hc.mem) (VR.emp.2 ?_))
   rw[show hh.toNat-l.toNat=0 from by omega,show(0:Int).toNat-l.toNat=0 from by omega]
   exact⟨_,rfl⟩
  ·rw[hz]at h
   obtain⟨Z2,cr⟩:=Ge e e' ad 0 0 hu hle hv hz
   exact aA cr (hn _ [] [] _ _ _ _ h (.refl hc.mem) (VR.emp.2 ⟨_,rfl⟩))
 ·rename_i e gY
  obtain⟨e',hu,hle⟩:=rK.slice
  cases hz:(lo.isNone&&gi hi&&gi mx)
  ·rw[hz]at h
   obtain⟨y,rd,ups,M',h,dP,hV,_⟩:=gC (.refl _) hc.mem hv h
   replace h:cond ((mx.map σ.ρ).isNone||(hi.map σ.ρ).isSome) (rG (lo.map σ.ρ) 0 λl=>rG (hi.map σ.ρ) (ℓ y:Int) λh=>rG (mx.map σ.ρ) (ℓ y:Int) λm=>
    cond (lz l h m (ℓ y:Int)) (K (.val (.slice e) (List.drop l.toNat (List.take h.toNat y))) rd ups) none) none=some r:=h
   obtain⟨hm,h⟩:=bn h
   obtain⟨l,h,pK⟩:=kB hc h
   obtain⟨hh,h,AI⟩:=kB hc h
   obtain⟨m,h,IS⟩:=kB hc h
   obtain⟨hk,h⟩:=bn h
   rw[mv]at hk
   obtain⟨h0,h1,h2,h3⟩:=bH hk
   have hr:=V.slice.1 hV
   have fN:=hr
   simp only[Rd,dx,dR]at fN
   obtain⟨ad,cap,hx,Sa,_⟩:=fN
   rw[hx]at hr
   have fc:(mx.map a.eval).isNone=true∨(hi.map a.eval).isSome=true:=by
    simp only[nk,Option.isNone_map,Option.isSome_map]at hm ⊢;exact hm
   have KM: ∃m',Nb (mx.map a.eval) cap m'∧hh≤m'∧m'≤cap:=by
    rcases IS with⟨h9,_⟩|⟨k,h9⟩
    ·exact⟨cap,.inl ⟨h9,rfl⟩,ω,jk _⟩
    ·exact⟨m,.inr ⟨k,h9⟩,h2,ω⟩
   obtain⟨m',KM,h4,h5⟩:=KM
   have cr:=lO (P:=P) (w:=w) ho hu hle hx pK AI KM fc h0 h1 h4 h5
   refine aA cr (hn _ _ _ _ _ M' _ h dP ?_)
   simp only[VR]
   exact V.slice.2 (hr.cut h0 h1 h4 ω)
  ·rw[hz]at h
   obtain⟨y,rd,h,hS⟩:=vz hc.mem hv h
   obtain⟨ad,cap,hx,_⟩:=hS
   obtain⟨Z2,cr⟩:=Ge e e' ad _ cap hu hle hx hz
   exact aA cr (hn _ _ [] _ _ _ _ h (.refl hc.mem) (VR.emp.2 ⟨_,rfl⟩))
 ·cases h
theorem IT(hE:EnvTy P E)(hc:Core c σ a.tmps w M ν){t:TypeId}{x:Operand}{lo hi mx:Option Operand}(ho:o.op= .slice t x lo hi mx){K:eo α}{τ:Ty}(ht:E.ty t=some τ)
  (h:qc E τ (lo.isNone&&gi hi&&gi mx) (σ.ρ x) (lo.map σ.ρ) (hi.map σ.ρ) (mx.map σ.ρ) σ.H K=some r) (hn:dt c σ a o w M ν K r next):o.wp P a w next Q:=by
 unfold qc at h
 split at h
 ·rename_i e id lo' Z3 hx pK AI IS
  have rK:=hE.ty t _ ht
  obtain⟨e',hu,hle⟩:=rK.slice
  have hv:=hc.ev x
  rw[hx]at hv
  simp only[VR]at hv
  obtain⟨h0,hv⟩:=hv
  have h:rG (lo.map σ.ρ) 0 (λi=>match σ.H id with
   |some (.own e' l)=>fg e' e (cond (lz i (ℓ l:Int) (ℓ l:Int) (ℓ l:Int)) (K (.sub id e i.toNat) [id] []) none)
   |_=>none)=some r:=by rw[pK];exact h
  obtain⟨i,h,hb⟩:=kB hc h
  split at h
  ·rename_i e2 l aF
   obtain⟨e1,h⟩:=cy h
   subst e1
   obtain⟨hk,h⟩:=bn h
   rw[mv]at hk
   obtain⟨h1,h2,_,_⟩:=bH hk
   obtain⟨ad,cap,Q2⟩:=ER.yk (hc.mem.fM id _ aF)
   have Sa:l.length≤cap:=by
    have:=hc.mem.fM id _ aF
    simp only[ER]at this
    rcases this with⟨rfl,a,Gd⟩|⟨b,cs,t,cp,Gd,_,_,_,hl,_⟩
    ·simp
    ·rw[Q2]at Gd;simp only[Value.slice.injEq]at Gd;obtain⟨_,_,rfl⟩:=Gd;exact hl
   have aaH:hi=none:=by simpa using AI
   have KM:mx=none:=by simpa using IS
   subst aaH KM
   have cr:=lO (P:=P) (w:=w) ho hu hle (hv.trans Q2) (l:=i) (h:=(l.length:Int)) (m:=(cap:Int)) hb (.inl ⟨rfl,rfl⟩) (.inl ⟨rfl,rfl⟩) (.inl rfl) h1 h2 ω (jk _)
   refine aA cr (hn _ _ [] _ _ _ _ h (.refl hc.mem) ?_)
   simp only[VR]
   exact⟨h0,ad,_,cap,Q2,by simp⟩
  ·cases h
 ·exact KL hE hc ho ht h hn
end VM
end
section
namespace VM
open Go
variable{P:Program}{E:Env}{o:Oper}{a:Act}{w:World}{M:Nat→Prop}{ν:Nat→Value}{σ:St}{c:Ctx}{α:Type}{r:α}{next:Act→World→Prop}{Q:Exit→Act→World→Prop}
theorem nv{t ty e:TypeId}{i:TypeInfo}(ht:P.underlying t=some (.slice e))(hi:P.info? e=some i)(base:Option Addr)(n cap:Nat)(h:n≤cap)(a':Option Addr)(cp:Nat):
  (Builtin.append_ #[t,t] ty #[.slice base n cap,.slice a' 0 cp]).run P w= .ok (.slice base n cap) w:=by
 cases a'<;>cases base<;>simp[Builtin.append_,run_underlying ht,Go.sizeOf,typeInfo,hi,Builtin.lenOf,h,Builtin.firstCells,loadCells,loadCellsFrom,storeCells]
theorem DF{t ty e te:TypeId}{i:TypeInfo}(ht:P.underlying t=some (.slice e))(hi:P.info? e=some i){b n cap m cp:Nat}{a':Addr}{news:List Value}{cs:Array Value}
  (hg:w.heap[b]? =some (.cells cs te (0,0))) (hs:cs.size=cap*i.size) (hl:news.length=m*i.size) (hn: ∀j u,news[j]? =some u→w.cell? (a'.add j)=some u) (h1: ∀u∈news,u.oneCell'=true) (hr:n+m≤cap):
  (Builtin.append_ #[t,t] ty #[.slice (some ⟨b,0,none⟩) n cap,.slice (some a') m cp]).run P w= .ok (.slice (some ⟨b,0,none⟩) (n+m) cap) (w.setRow b (cL cs.toList (n*i.size) news).toArray):=by
 have hf:=run_firstCells_some (P:=P) w i.size m a' m cp news hl hn
 have hm:(n+m)*i.size≤cap*i.size:=gh _ hr
 rw[cI]at hm
 have sM:=run_storeCells_at (P:=P) b (n*i.size) te news 0 cs w hg ω h1
 simp only[ik]at sM
 simp[Builtin.append_,run_underlying ht,Go.sizeOf,typeInfo,hi,Builtin.lenOf,hr,hf,Addr.add_lit,sM,cL]
theorem eT{args:Array Operand}{t:TypeId}{x y:Operand}{v:Value}{w':World}(ho:o.op= .call {callee:= .builtin .append,args,argTypes:= #[t,t]})(ha:args.toList=[x,y])
  (h:(Builtin.append_ #[t,t] o.type #[a.eval x,a.eval y]).run P w= .ok v w'):(execOp a.eval o).run P w= .ok (.value v) w':=by
 obtain⟨cs,hr⟩:=jn (P:=P) (ρ:=a.eval) ho (w:=w)
 rw[hr]
 have:args.map a.eval= #[a.eval x,a.eval y]:=by apply fE;simp[ha]
 rw[this]
 simp[builtin,h]
theorem ym{H:Nat→Option aI}(hm:Mem c H w M ν){id:Nat}(aF:H id=none){t ty:TypeId}{e':TypeId}{e:Ty}(hu:P.underlying t=some (.slice e'))(hle:gA P e e')
  {xs ys:List e.den} {olds news:List Value} {base:Option Addr} {cap cp:Nat} {a':Addr} (KN:base=none→xs=[]∧cap=0)
  (pK:olds.length=xs.length*e.size) (hro:kf w M e olds xs) (ho: ∀b,base=some b→ ∀j u,olds[j]? =some u→w.cell? (b.add j)=some u)
  (Nc:news.length=ys.length*e.size) (hrn:kf w M e news ys) (hn: ∀j u,news[j]? =some u→w.cell? (a'.add j)=some u)
  (hg:cap<xs.length+ys.length) (hs:xs.length+ys.length<th):
  ∃v w' M' ν',(Builtin.append_ #[t,t] ty #[.slice base xs.length cap,.slice (some a') ys.length cp]).run P w= .ok v w'∧Tr c H w M ν (a8 H id (some (.own e (xs++ys)))) w' M' ν'∧ν' id=v:=by
 obtain⟨i,hi,mb,hz,Sg⟩:=hle.base
 have Sh:(aZ e e.bq).cells.size=e.size:=by rw[←aG,di,iq]
 have Vm:xs.length+ys.length≤maxLen:=by simp only[th,maxLen]at hs ⊢;omega
 have yp:(xs.length+ys.length)*i.bytes≤140737488355328:=by
  have:(xs.length+ys.length)*i.bytes≤68719476736*2048:=pW (by simp only[th]at hs;omega) Sg
  omega
 have cr: ∃iK rest,(Builtin.append_ #[t,t] ty #[.slice base xs.length cap,.slice (some a') ys.length cp]).run P w= .ok (.slice (some ⟨w.heap.size,0,none⟩) (xs.length+ys.length) iK) (w.drew.alloc (.cells (olds++news++rest).toArray e'))∧
   xs.length+ys.length≤iK∧iK≤maxLen∧rest.length=(iK-(xs.length+ys.length))*e.size:=by
  refine⟨grownCap w (xs.length+ys.length) cap e',(Builtin.zeroCells (aZ e e.bq).cells (grownCap w (xs.length+ys.length) cap e'-(xs.length+ys.length))).toList,?_,grownCap_ge _ _ _ _,grownCap_le_maxLen _ _ _ _ Vm,?_⟩
  ·cases base with
   |none=>
    obtain⟨rfl,rfl⟩:=KN rfl
    have ho0:olds=[]:=oy (by rw[pK];simp)
    subst ho0
    have:=run_append_nil (P:=P) w t ty e' i _ hu hi hz a' ys.length cp news (by rw[Nc,mb]) hn (by simpa using hg) (by simp only[th]at hs;omega) (by simp at yp;omega)
    simp only[dy,dG,c7]
    rw[this]
    congr 2
    apply cN (λz=>Obj.cells z e' (0,0))
    apply fE;simp
   |some b=>
    have:=run_append_grow (P:=P) w t ty e' i _ hu hi hz b xs.length cap olds (by rw[pK,mb]) (ho b rfl) a' ys.length cp news (by rw[Nc,mb]) hn hg (by simp only[th]at hs;omega) (growslice_fits hg yp)
    rw[this]
    congr 2
    apply cN (λz=>Obj.cells z e' (0,0))
    apply fE;simp
  ·rw[aG,size_zeroCells,Sh]
 obtain⟨iK,rest,cr,yl,Si,Wj⟩:=cr
 have hlen:(xs++ys).length=xs.length+ys.length:=aC
 have hd:=Tr.drew hm
 have Z1:(olds++news).length=(xs++ys).length*e.size:=by rw[aC,pK,Nc,hlen,cI]
 have Gw:=Tr.row hd.mem aF e' (e:=e) (cs:=(olds++news++rest).toArray) (l:=xs++ys) (cap:=iK) (by rw[hlen];exact yl) Si
  (by rw[fa,aC,Z1,Wj,hlen,←cI];congr 1;omega)
  (kf.more ((hro.append pK hrn).bm hd.bm) (by rw[Z1];exact aB _))
 refine⟨_,_,_,_,cr,hd.trans Gw,?_⟩
 rw[←hlen];simp[updν]
theorem IU(hE:EnvTy P E)(hc:Core c σ a.tmps w M ν){args:Array Operand}{ts:Array TypeId}{t t':TypeId}{x y:Operand}(ho:o.op= .call {callee:= .builtin .append,args,argTypes:=ts})(ha:args.toList=[x,y])(Sj:ts.toList=[t,t']){K:eo α}{e:Ty}
  (ht:E.ty t=some (.slice e)) {id:Nat} (h:cond (Nat.beq t t') (mz σ.H id (.own e []) (Dm id e (σ.ρ x) (σ.ρ y) σ.H K)) none=some r) (hn:dt c σ a o w M ν K r next):o.wp P a w next Q:=by
 obtain⟨htt,h1⟩:=bn h
 clear h
 have htt:=df htt
 subst htt
 obtain⟨aF,h⟩:=il h1
 clear h1
 have aaK:ts= #[t,t]:=by apply fE;simpa using Sj
 subst aaK
 obtain⟨e',hu,hle⟩:=(hE.ty t _ ht).slice
 obtain⟨i,hi,mb,hz,Sg⟩:=hle.base
 have BN:=hc.ev x
 unfold Dm at h
 obtain⟨ys,rd,h,hS⟩:=vz hc.mem (hc.ev y) h
 have Sk:(ys=[]∧ ∃a' cp,a.eval y= .slice a' 0 cp)∨(ys≠[]∧ ∃a' cp news,a.eval y= .slice (some a') ys.length cp∧news.length=ys.length*e.size∧(∀j u,news[j]? =some u→w.cell? (a'.add j)=some u)∧kf w M e news ys∧ ∀u∈news,u.oneCell'=true):=by
  by_cases hy:ys=[]
  ·left
   obtain⟨a',cp,hv,_⟩:=hS
   exact⟨hy,a',cp,by rw[hv,hy];rfl⟩
  ·right
   obtain⟨b,off,cp,news,hv,hl,m2,gK,h1⟩:=hS.cells hy
   exact⟨hy,⟨b,off,none⟩,cp,news,hv,hl,λj u hj=>by rw[Addr.add_lit];exact m2 j u hj,gK,h1⟩
 split at h
 ·
  rename_i hx
  rw[hx]at BN
  obtain⟨ad,BN⟩:=VR.emp.1 BN
  obtain⟨Nd,h⟩:=bn h
  rw[xP]at Nd
  have Nd:=bH Nd
  rcases Sk with⟨rfl,a',cp,tD⟩|⟨hy,a',cp,news,tD,hl,m2,gK,h1⟩
  ·refine aA (eT ho ha (by rw[BN,tD];exact nv hu hi ad 0 0 (aB _) a' cp)) (hn _ _ _ _ _ _ _ h (Tr.nothing hc.mem aF e ad) ?_)
   simp only[VR]
   exact⟨by show a8 _ id _ id≠none;rw[al];simp,by simp[updν]⟩
  ·have NP:0<ys.length:=qS.2 hy
   obtain⟨v,w',M',ν',cr,dP,hv⟩:=ym (P:=P) (ty:=o.type) hc.mem aF hu hle (xs:=[]) (ys:=ys) (olds:=[]) (news:=news) (base:=ad) (cap:=0) (cp:=cp) (a':=a') (λ_=>⟨rfl,rfl⟩) (by simp) (λi hi=>absurd hi (by simp)) (λ_ _ j u hj=>by simp at hj)
    hl gK m2 (by simpa using NP) (by simpa using Nd)
   refine aA (eT ho ha (by rw[BN,tD];exact cr)) (hn _ _ _ _ _ _ _ h dP ?_)
   simp only[VR]
   exact⟨by show a8 _ id _ id≠none;rw[al];simp,hv.symm⟩
 ·
  rename_i j hx
  rw[hx]at BN
  simp only[VR]at BN
  obtain⟨_,BN⟩:=BN
  split at h
  ·rename_i e1 l hj
   obtain⟨e2,h⟩:=aJ h
   cases e2
   obtain⟨Nd,h⟩:=bn h
   rw[xP]at Nd
   have Nd:l.length+ys.length<th:=bH Nd
   have gY:id≠j:=λe=>by rw[e,hj]at aF;cases aF
   have k6:a8 σ.H j (some .gone) id=none:=by rw[aq _ _ gY];exact aF
   have Gf:=Tr.gone hc.mem j
   have hQ:=hc.mem.fM j _ hj
   simp only[ER]at hQ
   rcases hQ with⟨rfl,ad,Sl⟩|⟨b,cs,te,cap,Sl,hg,hM,IH,hl,zP,hs,hr⟩
   ·rw[Sl]at BN
    rcases Sk with⟨rfl,a',cp,tD⟩|⟨hy,a',cp,news,tD,hl,m2,gK,h1⟩
    ·refine aA (eT ho ha (by rw[BN,tD];exact nv hu hi ad 0 0 (aB _) a' cp)) (hn _ _ _ _ _ _ _ h (Gf.trans (Tr.nothing Gf.mem k6 e ad)) ?_)
     simp only[VR]
     exact⟨by show a8 _ id _ id≠none;rw[al];simp,by simp[updν]⟩
    ·have NP:0<ys.length:=qS.2 hy
     obtain⟨v,w',M',ν',cr,dP,hv⟩:=ym (P:=P) (ty:=o.type) Gf.mem k6 hu hle (xs:=[]) (ys:=ys) (olds:=[]) (news:=news) (base:=ad) (cap:=0) (cp:=cp) (a':=a') (λ_=>⟨rfl,rfl⟩) (by simp) (λi hi=>absurd hi (by simp)) (λ_ _ j u hj=>by simp at hj)
      hl gK m2 (by simpa using NP) (by simpa using Nd)
     refine aA (eT ho ha (by rw[BN,tD];exact cr)) (hn _ _ _ _ _ _ _ h (Gf.trans dP) ?_)
     simp only[VR]
     exact⟨by show a8 _ id _ id≠none;rw[al];simp,hv.symm⟩
   ·rw[Sl]at BN
    have yf:cs.toList.length=cap*e.size:=by rw[aG,hs]
    have IV:l.length*e.size≤cap*e.size:=gh _ hl
    rcases Sk with⟨rfl,a',cp,tD⟩|⟨hy,a',cp,news,tD,Nc,m2,gK,h1⟩
    ·refine aA (eT ho ha (by rw[BN,tD];exact nv hu hi _ _ cap hl a' cp)) (hn _ _ _ _ _ M (updν ν id (ν j)) h ?_ ?_)
     ·refine Tr.rename hc.mem hj aF (.inr rfl) ?_
      rw[bF]
      exact hc.mem.fM j _ hj
     ·simp only[VR]
      exact⟨by show a8 _ id _ id≠none;rw[al];simp,by simp[updν,Sl]⟩
    ·by_cases tH:l.length+ys.length≤cap
     ·have hmul:(l.length+ys.length)*e.size≤cap*e.size:=gh _ tH
      rw[cI]at hmul
      have cr:=DF (P:=P) (ty:=o.type) hu hi (w:=w) (b:=b) (n:=l.length) (cap:=cap) (m:=ys.length) (cp:=cp) (a':=a') (news:=news) (cs:=cs) hg (by rw[hs,mb]) (by rw[Nc,mb]) m2 h1 tH
      rw[mb]at cr
      have NF:cL cs.toList (l.length*e.size) news=(cs.toList.take (l.length*e.size)++news)++cs.toList.drop (l.length*e.size+news.length):=rfl
      have hold:kf w M e (cs.toList.take (l.length*e.size)) l:=kf.take hr (aB _)
      have htl:(cs.toList.take (l.length*e.size)).length=l.length*e.size:=by rw[bV];omega
      have Q3:kf w M e (cL cs.toList (l.length*e.size) news) (l++ys):=by
       rw[NF]
       refine kf.more (hold.append htl gK) ?_
       rw[aC,aC,htl,Nc,cI];exact aB _
      have hsl:(cL cs.toList (l.length*e.size) news).length=cap*e.size:=by rw[cK ω];exact yf
      have NQ:Tr c σ.H w M ν (a8 σ.H j (some (.own e l))) (w.setRow b (cL cs.toList (l.length*e.size) news).toArray) M ν:=by
       refine Tr.write (e':= .own e l) hc.mem hj trivial trivial (.refl _) (by rw[Sl];simp[dd];omega) hg λCO hk qn=> ?_
       simp only[ER]
       refine .inr ⟨b,_,te,cap,Sl,setRow_heap w b cs _ te _ hg,qn,IH,hl,zP,by rw[fa];exact hsl,λk uH=> ?_⟩
       have:=(Q3 k (by rw[aC];omega)).bm hk
       rw[sS uH]at this
       exact this
      rw[uD hj]at NQ
      have qm:Tr c σ.H (w.setRow b (cL cs.toList (l.length*e.size) news).toArray) M ν (a8 (a8 σ.H j (some .gone)) id (some (.own e (l++ys)))) (w.setRow b (cL cs.toList (l.length*e.size) news).toArray) M (updν ν id (.slice (some ⟨b,0,none⟩) (l++ys).length cap)):=by
       refine Tr.rename NQ.mem hj aF (.inr (by rw[Sl];simp[dd])) ?_
       simp only[ER]
       refine .inr ⟨b,_,te,cap,rfl,setRow_heap w b cs _ te _ hg,hM,IH,by rw[aC];exact tH,zP,by rw[fa];exact hsl,(Q3.bm NQ.bm)⟩
      refine aA (eT ho ha (by rw[BN,tD];exact cr)) (hn _ _ _ _ _ _ _ h (NQ.trans qm) ?_)
      simp only[VR]
      exact⟨by show a8 _ id _ id≠none;rw[al];simp,by simp[updν]⟩
     ·obtain⟨v,w',M',ν',cr,dP,hv⟩:=ym (P:=P) (ty:=o.type) Gf.mem k6 hu hle (xs:=l) (ys:=ys) (olds:=cs.toList.take (l.length*e.size)) (news:=news) (base:=some ⟨b,0,none⟩) (cap:=cap) (cp:=cp) (a':=a') (λh=>by cases h)
       (by rw[bV];omega) (kf.take hr (aB _)) (λb' cY k u hk=>by
        cases cY
        rw[Addr.add_lit,cell_of hg]
        rw[iA]at hk
        split at hk
        ·rw[←eI];simpa using hk
        ·cases hk)
       Nc gK m2 ω Nd
      refine aA (eT ho ha (by rw[BN,tD];exact cr)) (hn _ _ _ _ _ _ _ h (Gf.trans dP) ?_)
      simp only[VR]
      exact⟨by show a8 _ id _ id≠none;rw[al];simp,hv.symm⟩
  ·cases h
 ·cases h
theorem kf.over{e:Ty}{cs zs:List Value}{l1 l2:List e.den}{n:Nat}(h1:kf w M e cs l1)(h2:kf w M e zs l2)(hn:n≤l1.length)(hc:l1.length*e.size≤cs.length)(hz:zs.length=l2.length*e.size)(hs:n*e.size+zs.length≤cs.length):
  kf w M e (cL cs (n*e.size) zs) (List.take n l1++l2):=by
 intro i hi
 rw[aC,bV,fb hn]at hi
 by_cases dv:i<n
 ·have:=cE (s:=e.size) dv
  rw[w1 (.inl this) hs,sS (by rw[bV];omega),xF]
  exact h1 i ω
 ·have h3:=h2 (i-n) ω
  have HR:i-n<l2.length:=ω
  have h4:=cE (s:=e.size) HR
  have h5:i*e.size=n*e.size+(i-n)*e.size:=by rw[←cI];congr 1;omega
  have h6:((cL cs (n*e.size) zs).drop (i*e.size)).take e.size=(zs.drop ((i-n)*e.size)).take e.size:=by
   unfold cL
   have hl:(cs.take (n*e.size)).length=n*e.size:=by rw[bV];omega
   rw[h5,aT,←eK,kd hl,sP ω,qQ (by rw[dZ];omega)]
  rw[h6,xr (by rw[bV];omega)]
  simp only[bV,fb hn]
  exact h3
theorem tI{args:Array Operand}{t:TypeId}{x:Operand}{v:Value}{w':World}(ho:o.op= .call {callee:= .builtin .clear,args,argTypes:= #[t]})(ha:args.toList=[x])
  (h:(Builtin.clear_ #[t] o.type #[a.eval x]).run P w= .ok v w'):(execOp a.eval o).run P w= .ok (.value v) w':=by
 obtain⟨cs,hr⟩:=jn (P:=P) (ρ:=a.eval) ho (w:=w)
 rw[hr]
 have:args.map a.eval= #[a.eval x]:=by apply fE;simp[ha]
 rw[this]
 simp[builtin,h]
theorem KO(hE:EnvTy P E)(hc:Core c σ a.tmps w M ν){args:Array Operand}{ts:Array TypeId}{t:TypeId}{x:Operand}(ho:o.op= .call {callee:= .builtin .clear,args,argTypes:=ts})(ha:args.toList=[x])(Sj:ts.toList=[t]){K:eo α}{e:Ty}
  (ht:E.ty t=some (.slice e)) (h:rZ e (σ.ρ x) σ.H K=some r) (hn:dt c σ a o w M ν K r next):o.wp P a w next Q:=by
 have Sj:ts= #[t]:=by apply fE;simp[Sj]
 subst Sj
 have hv:=hc.ev x
 unfold rZ at h
 split at h
 ·rename_i id e1 lo hx
  obtain⟨e2,h0⟩:=cy h
  clear h
  subst e2
  rw[hx]at hv
  simp only[VR]at hv
  obtain⟨afJ,ad,n,cap,Q2,hv⟩:=hv
  split at h0
  ·rename_i e3 l aF
   obtain⟨e4,h⟩:=aJ h0
   clear h0
   cases e4
   obtain⟨e',hu,hle⟩:=(hE.ty t _ ht).slice
   obtain⟨i,hi,hs,hz,_⟩:=hle.base
   have hQ:=hc.mem.fM id _ aF
   simp only[ER]at hQ
   rcases ji lo l.length with dv|HS
   ·rcases hQ with⟨rfl,_⟩|⟨b,cs,te,iK,hb,hg,hM,IH,hl,zP,mb,hr⟩
    ·simp at dv
    ·rw[Q2]at hb
     simp only[Value.slice.injEq]at hb
     obtain⟨rfl,rfl,rfl⟩:=hb
     rw[af ω]at hv
     have Sh:(aZ e1 e1.bq).cells.size=e1.size:=by rw[←aG,di,iq]
     have Vk:Builtin.zeroCells (aZ e1 e1.bq).cells (l.length-lo)=madeCells (aZ e1 e1.bq).cells ((l.length-lo)*e1.size):=by
      unfold Builtin.zeroCells madeCells;rw[Sh]
     have Z4:(madeCells (aZ e1 e1.bq).cells ((l.length-lo)*e1.size)).toList.length=(l.length-lo)*e1.size:=by rw[aG,size_madeCells]
     have uE: ∀u∈(madeCells (aZ e1 e1.bq).cells ((l.length-lo)*e1.size)).toList,u.oneCell'=true:=by
      intro u hu
      have hm:u∈(aZ e1 e1.bq).cells.toList:=by
       simp only[madeCells,Array.toList_map,cA]at hu
       obtain⟨j,hj,rfl⟩:=hu
       rw[Array.mem_toList_iff,Array.mem_range]at hj
       have h0:0<e1.size:=by
        rcases Nat.eq_zero_or_pos e1.size with h0|h0
        ·rw[h0]at hj;simp at hj
        ·exact h0
       have tA:j%(aZ e1 e1.bq).cells.size<(aZ e1 e1.bq).cells.size:=Nat.mod_lt _ ω
       rw[getElem!_pos (aZ e1 e1.bq).cells _ tA]
       exact Array.getElem_mem_toList tA
      rw[di]at hm
      exact(Rd.zero w M e1).gO u hm
     have yp:lo*e1.size+(l.length-lo)*e1.size≤cs.size:=by
      rw[mb,←cI]
      exact gh _ ω
     have sM:=run_storeCells_at (P:=P) b (lo*e1.size) te (madeCells (aZ e1 e1.bq).cells ((l.length-lo)*e1.size)).toList 0 cs w hg (by rw[Z4];omega) uE
     simp only[ik]at sM
     obtain⟨m,hm⟩: ∃m,l.length-lo=m+1:=⟨l.length-lo-1,ω⟩
     have cr:(Builtin.clear_ #[t] o.type #[a.eval x]).run P w= .ok (.tuple #[]) (w.setRow b (cL cs.toList (lo*e1.size) (madeCells (aZ e1 e1.bq).cells ((l.length-lo)*e1.size)).toList).toArray):=by
      rw[hv]
      rw[hm]at sM Vk ⊢
      simp[Builtin.clear_,run_underlying hu,zeroValue,typeInfo,hi,hz,Addr.add_lit,Vk,sM,cL]
     have dP:=Tr.write (e':= .own e1 (List.take lo l++List.replicate (ℓ l-lo) e1.zero)) (new:=(cL cs.toList (lo*e1.size) (madeCells (aZ e1 e1.bq).cells ((l.length-lo)*e1.size)).toList).toArray) hc.mem aF trivial trivial ⟨rfl,by simp;omega⟩ (by rw[Q2];simp[dd];omega) hg (λCO hk qn=>by
      simp only[ER]
      refine .inr ⟨b,_,te,cap,?_,setRow_heap w b cs _ te _ hg,qn,IH,by simp;omega,zP,?_,?_⟩
      ·rw[Q2];simp;omega
      ·rw[fa,cK (by rw[Z4,aG];exact yp),aG,mb]
      ·have h1:kf w M e1 cs.toList l:=hr
       have h2:=kf.made w M e1 (n:=(l.length-lo)*e1.size) (l:=l.length-lo) (aB _)
       have h3:=kf.over h1 h2 (n:=lo) ω (iC (gh _ hl) (Nat.le_of_eq (by rw[aG,mb]))) (by rw[Z4,dg]) (by rw[Z4,aG];exact yp)
       exact h3.bm hk)
     exact aA (tI ho ha cr) (hn _ _ _ _ _ _ _ h dP (by simp[VR]))
   ·
    have zO:List.take lo l++List.replicate (ℓ l-lo) e1.zero=l:=by
     rw[jf HS,show l.length-lo=0 from by omega];simp
    have hn0:n=l.length:=by
     obtain⟨Z2,iK,hh⟩:=ER.yk (hc.mem.fM id _ aF)
     rw[Q2]at hh;simp only[Value.slice.injEq]at hh;exact hh.2.1
    have cr:(Builtin.clear_ #[t] o.type #[a.eval x]).run P w= .ok (.tuple #[]) w:=by
     rw[hv,show n-lo=0 from by omega]
     cases(if cap=lo then ad else ad.map (·.add (lo*e1.size)))<;>simp[Builtin.clear_,run_underlying hu]
    have hH:a8 σ.H id (some (.own e1 l))=σ.H:=by
     funext j
     by_cases hj:j=id
     ·subst hj;rw[al,aF]
     ·rw[aq _ _ hj]
    refine aA (tI ho ha cr) (hn _ _ _ _ _ M ν h ?_ (by simp[VR]))
    show Tr c σ.H w M ν (a8 σ.H id (some (.own e1 (List.take lo l++List.replicate (ℓ l-lo) e1.zero)))) w M ν
    rw[zO,hH]
    exact .refl hc.mem
  ·cases h0
 ·cases h
end VM
end
