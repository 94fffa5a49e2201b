/- A part of the proof of BookTwo of layer 18: a machine that reads a function of the program as an equation between values. -/
import Derived.Test.YtecmobijochjkaaGreatVm2
import Derived.Great.FillDense
set_option linter.all false
open List renaming length→ℓ
section
namespace VM
open Go
variable{P:Program}{E:Env}{o:Oper}{a:Act}{w:World}{M:Nat→Prop}{ν:Nat→Value}{σ:St}{c:Ctx}{α:Type}{r:α}{next:Act→World→Prop}{Q:Exit→Act→World→Prop}
theorem VA{b:BinOp}{k k':IntKind}{x y:Int}{t:TypeId}{K:bA→Option α}(h:shK b k x y K=some r):
  ∃z,K (.val (.int k) z)=some r∧(binOp b t (.int k x) (.int k' y)).run P w= .ok (.int k z) w:=by
 unfold shK at h
 split at h
 ·obtain⟨h0,h⟩:=ns h
  rw[qw]at h0
  have h0: ¬y<0:=by simpa using h0
  refine⟨_,h,?_⟩
  rw[Gj,X2]
  simp[binOp,Op.shift,h0]
 ·obtain⟨h0,h⟩:=ns h
  rw[qw]at h0
  have h0: ¬y<0:=by simpa using h0
  refine⟨_,h,?_⟩
  rw[R5]
  simp[binOp,Op.shift,h0]
 ·cases h
theorem Lx{b:BinOp}{k:IntKind}{x y:Int}{t:TypeId}{K:bA→Option α}(h:vv b k x y K=some r):
  ∃v u,K v=some r∧(binOp b t (.int k x) (.int k y)).run P w= .ok u w∧ ∀H,VR w M H ν v u:=by
 unfold vv at h
 split at h
 ·exact⟨_,_,h,by simp[binOp,Op.intArith,Gj],λH=> .mkInt _ _⟩
 ·exact⟨_,_,h,by simp[binOp,Op.intArith,Gj],λH=> .mkInt _ _⟩
 ·exact⟨_,_,h,by simp[binOp,Op.intArith,Gj],λH=> .mkInt _ _⟩
 ·obtain⟨h0,h⟩:=ns h
  rw[ko]at h0
  have h0: ¬y=0:=by simpa using h0
  exact⟨_,_,h,by simp[binOp,Op.intDiv,Gj,ajW,h0],λH=> .mkInt _ _⟩
 ·obtain⟨h0,h⟩:=ns h
  rw[ko]at h0
  have h0: ¬y=0:=by simpa using h0
  exact⟨_,_,h,by simp[binOp,Op.intDiv,ajX,h0],λH=> .mkInt _ _⟩
 ·exact⟨_,_,h,by simp[binOp,Op.intBits,vt],λH=> .mkInt _ _⟩
 ·exact⟨_,_,h,by simp[binOp,Op.intBits,vt],λH=> .mkInt _ _⟩
 ·exact⟨_,_,h,by simp[binOp,Op.intBits,vt],λH=> .mkInt _ _⟩
 ·exact⟨_,_,h,by simp[binOp,Op.intBits,vt],λH=> .mkInt _ _⟩
 ·exact⟨_,.bool (decide (x=y)),h,by simp[binOp,Op.intCmp];rfl,λH=>by rw[ko];exact .vz _⟩
 ·exact⟨_,.bool (!decide (x=y)),h,by simp[binOp,Op.intCmp];rfl,λH=>by rw[ko];exact .vz _⟩
 ·exact⟨_,_,h,by simp[binOp,Op.intCmp,qw],λH=> .vz _⟩
 ·exact⟨_,_,h,by simp[binOp,Op.intCmp,m0],λH=> .vz _⟩
 ·exact⟨_,_,h,by simp[binOp,Op.intCmp,qw],λH=> .vz _⟩
 ·exact⟨_,_,h,by simp[binOp,Op.intCmp,m0],λH=> .vz _⟩
 ·cases h
theorem VB{t:Option Ty}{op:BinOp}{τ:Ty}{x:τ.den}{υ:Ty}{y:υ.den}{K:bA→Option α}(h:Gm t op τ x υ y K=some r):
  (∃(k k':IntKind) (m n:Int),bA.val τ x= .val (.int k) m∧bA.val υ y= .val (.int k') n∧(cond (abZ op) (shK op k m n K) (if k=k' then vv op k m n K else none))=some r)∨
  (∃z:τ.den,bA.val υ y= .val τ z∧t=some τ∧τ.comparable=true∧((op= .eql∧K (.val .bool (pC τ x z))=some r)∨(op= .neq∧K (.val .bool (!pC τ x z))=some r))):=by
 unfold Gm at h
 split at h
 ·exact .inl ⟨_,_,_,_,rfl,rfl,h⟩
 ·right
  split at h
  ·cases h
  ·obtain⟨e,h1⟩:=dX h
   clear h
   subst e
   obtain⟨hc,h⟩:=cB h1
   clear h1
   split at h
   ·obtain⟨e,h1⟩:=bx h
    subst e
    exact⟨_,rfl,rfl,hc,.inl ⟨rfl,h1⟩⟩
   ·obtain⟨e,h1⟩:=bx h
    subst e
    exact⟨_,rfl,rfl,hc,.inr ⟨rfl,h1⟩⟩
   ·cases h
theorem DR{t:TypeId}(hu:P.underlying t=some .bool)(x y:Bool)(w:World):(Op.equal t (.bool x) (.bool y)).run P w= .ok (x==y) w:=by
 unfold Op.equal
 obtain⟨n,hn⟩: ∃n,Op.maxDepth=n+1:=⟨9999,rfl⟩
 rw[hn]
 simp[Op.equalIn,run_underlying hu]
theorem run_eql_bool{t:TypeId}(hu:P.underlying t=some .bool)(x y:Bool):(binOp .eql t (.bool x) (.bool y)).run P w= .ok (.bool (x==y)) w:=by
 simp[binOp,DR hu]
theorem run_neq_bool{t:TypeId}(hu:P.underlying t=some .bool)(x y:Bool):(binOp .neq t (.bool x) (.bool y)).run P w= .ok (.bool (!(x==y))) w:=by
 simp[binOp,DR hu]
theorem apb(x y:ByteArray):(x.toList==y.toList)=decide (x.toList=y.toList):=by
 rw[pR];simp
theorem N4{t:TypeId}(x y:ByteArray):(binOp .eql t (.string x) (.string y)).run P w= .ok (.bool (decide (x.toList=y.toList))) w:=by
 simp[binOp,Op.stringOp,apb]
theorem N5{t:TypeId}(x y:ByteArray):(binOp .neq t (.string x) (.string y)).run P w= .ok (.bool (!decide (x.toList=y.toList))) w:=by
 simp[binOp,Op.stringOp,apb]
theorem Yd(hE:EnvTy P E)(hc:Core c σ a.tmps w M ν){b:BinOp}{t t':TypeId}{x y:Operand}(ho:o.op= .binOp b t x y t'){K:g7 α}
  (h:NO (σ.ρ x) (fun τ x=>NO (σ.ρ y) fun υ y=>Gm (E.ty t) b τ x υ y λv=>K v [] [])=some r) (hn:fK c σ a o w M ν K r next):o.wp P a w next Q:=by
 have hx:=hc.ev x
 have hy:=hc.ev y
 unfold NO at h
 split at h
 ·rename_i τ x' hxe
  split at h
  ·rename_i υ y' hye
   rw[hxe]at hx;rw[hye]at hy
   rcases VB h with⟨k,k',m,n,e1,e2,h1⟩|⟨z,e2,ht,Fv,h1⟩
   ·rw[e1]at hx;rw[e2]at hy
    have hx:=hx.int
    have hy:=hy.int
    cases hs:abZ b
    ·rw[hs]at h1
     replace h1:(if k=k' then vv b k m n (λv=>K v [] [])else none)=some r:=h1
     split at h1
     ·rename_i hk;subst hk
      obtain⟨v,u,hK,dF,hVR⟩:=Lx (P:=P) (w:=w) (M:=M) (ν:=ν) (t:=t) h1
      exact a6 (qY ho (by rw[hx,hy];exact qA w) (by rw[hx,hy];exact dF)) (hn _ [] [] _ _ _ _ hK (.refl hc.mem) (hVR _))
     ·cases h1
    ·rw[hs]at h1
     replace h1:shK b k m n (λv=>K v [] [])=some r:=h1
     obtain⟨z,hK,dF⟩:=VA (P:=P) (w:=w) (k':=k') (t:=t) h1
     exact a6 (qY ho (by rw[hx,hy];exact qA w) (by rw[hx,hy];exact dF)) (hn _ [] [] _ _ _ _ hK (.refl hc.mem) (.mkInt _ _))
   ·rw[e2]at hy
    have key:(eqGuard b t x y (a.eval x) (a.eval y)).run P w= .ok () w∧(binOp .eql t (a.eval x) (a.eval y)).run P w= .ok (.bool (pC τ x' z)) w∧(binOp .neq t (a.eval x) (a.eval y)).run P w= .ok (.bool (!pC τ x' z)) w:=by
     by_cases Gt:τ.isAgg=true
     ·simp only[VR]at hx hy
      exact hE.eq t τ ht Fv Gt w M _ _ _ _ b x y hx hy
     ·have hl:=hE.ty t τ ht
      cases τ with
      |int k=>
       rw[hx.int,hy.int]
       refine⟨qA w,?_,?_⟩
       ·simp[binOp,Op.intCmp,pC,ko];rfl
       ·simp[binOp,Op.intCmp,pC,ko];rfl
      |bool=>rw[hx.bool,hy.bool];exact⟨Cy w,run_eql_bool hl.bool _ _,run_neq_bool hl.bool _ _⟩
      |str=>rw[hx.str,hy.str];exact⟨EO w,by rw[N4];simp[pC,Gl],by rw[N5];simp[pC,Gl]⟩
      |slice e=>simp[Ty.comparable]at Fv
      |unit=>simp[Ty.isAgg]at Gt
      |pair _ _=>simp[Ty.isAgg]at Gt
      |arr _ _=>simp[Ty.isAgg]at Gt
    obtain⟨hg,h2,h3⟩:=key
    rcases h1 with⟨rfl,hK⟩|⟨rfl,hK⟩
    ·exact a6 (qY ho hg h2) (hn _ [] [] _ _ _ _ hK (.refl hc.mem) (.vz _))
    ·exact a6 (qY ho hg h3) (hn _ [] [] _ _ _ _ hK (.refl hc.mem) (.vz _))
  ·cases h
 ·cases h
theorem ace(hc:Core c σ a.tmps w M ν){u:UnOp}{t:TypeId}{x:Operand}(ho:o.op= .unOp u t x){K:g7 α}
  (h:Vo u (σ.ρ x) (λv=>K v [] [])=some r) (hn:fK c σ a o w M ν K r next):o.wp P a w next Q:=by
 have hx:=hc.ev x
 unfold Vo at h
 split at h
 ·rename_i k n hxe
  rw[hxe]at hx
  refine a6 (xE ho (v:= .int k (k.wrap (0-n))) ?_) (hn _ [] [] _ _ _ _ h (.refl hc.mem) (by rw[Gj];exact .mkInt _ _))
  rw[hx.int];simp[Op.unary,Op.intArith]
 ·rename_i k n hxe
  rw[hxe]at hx
  refine a6 (xE ho (v:= .int k (sd .xor k (if k.signed then-1 else k.max) n)) ?_) (hn _ [] [] _ _ _ _ h (.refl hc.mem) (.mkInt _ _))
  rw[hx.int,vt];simp[Op.unary,Op.intBits]
 ·rename_i b hxe
  rw[hxe]at hx
  refine a6 (xE ho (v:= .bool (!b)) ?_) (hn _ [] [] _ _ _ _ h (.refl hc.mem) (.vz _))
  rw[hx.bool];simp[Op.unary]
 ·cases h
end VM
end
section
namespace VM
open Go
variable{P:Program}{E:Env}{o:Oper}{a:Act}{w:World}{M:Nat→Prop}{ν:Nat→Value}{σ:St}{c:Ctx}{α:Type}{r:α}{next:Act→World→Prop}{Q:Exit→Act→World→Prop}
theorem o4{args:Array Operand}{ts:Array TypeId}{t:TypeId}{x:Operand}{n:Nat}(ho:o.op= .call {callee:= .builtin .len,args,argTypes:=ts})(ha:args.toList=[x])(_ht:ts.toList.head?=some t)
  (hl: ∀ty,(Builtin.len_ ts ty #[a.eval x]).run P w= .ok (goInt n) w):(execOp a.eval o).run P w= .ok (.value (.int .i64 n)) w:=by
 obtain⟨cs,hr⟩:=n6 (P:=P) (ρ:=a.eval) ho (w:=w)
 rw[hr]
 have:args.map a.eval= #[a.eval x]:=by apply g8;simp[ha]
 rw[this]
 simp[builtin,hl,goInt]
theorem acf{ts:Array TypeId}{t ty:TypeId}(ht:ts[0]? =some t)(hu:P.underlying t=some .string)(s:ByteArray):(Builtin.len_ ts ty #[.string s]).run P w= .ok (goInt s.size) w:=by
 simp[Builtin.len_,ht,run_underlying hu]
theorem acg{ts:Array TypeId}{t ty e:TypeId}{n:Nat}(ht:ts[0]? =some t)(hu:P.underlying t=some (.array n e))(v:Value):(Builtin.len_ ts ty #[v]).run P w= .ok (goInt n) w:=by
 simp[Builtin.len_,ht,run_underlying hu]
theorem yP{ts:Array TypeId}{t ty e:TypeId}(ht:ts[0]? =some t)(hu:P.underlying t=some (.slice e))(ad:Option Addr)(n cp:Nat):(Builtin.len_ ts ty #[.slice ad n cp]).run P w= .ok (goInt n) w:=by
 simp[Builtin.len_,ht,run_underlying hu]
theorem ER.GG{e:Ty}{l:List e.den}{v:Value}(h:ER w M v (.own e l)): ∃ad cp,v= .slice ad l.length cp:=by
 simp only[ER]at h
 rcases h with⟨rfl,a,hv⟩|⟨b,cs,t,cap,hv,_⟩
 ·exact⟨a,0,hv⟩
 ·exact⟨_,cap,hv⟩
theorem ER.Ye{e:Ty}{l:List e.den}{v:Value}(h:ER w M v (.pD e l)): ∃ad cp,v= .slice ad l.length cp:=by
 simp only[ER]at h
 have h:=h.1
 simp only[Rd,fQ,fB]at h
 obtain⟨a,cap,hv,_⟩:=h
 exact⟨a,cap,hv⟩
theorem akf(hE:EnvTy P E)(hc:Core c σ a.tmps w M ν){args:Array Operand}{ts:Array TypeId}{x:Operand}(ho:o.op= .call {callee:= .builtin .len,args,argTypes:=ts})(ha:args.toList=[x]){K:g7 α}{τ:Ty}
  (ht:(ts.toList.head?).bind E.ty=some τ) (h:NP τ (σ.ρ x) σ.H K=some r) (hn:fK c σ a o w M ν K r next):o.wp P a w next Q:=by
 obtain⟨t,w5,XN⟩:=uy.1 ht
 have ht3:ts[0]? =some t:=by rw[←w5,←iz,List.head?_eq_getElem?]
 have hl:=hE.ty t τ XN
 have hv:=hc.ev x
 unfold NP at h
 split at h
 ·rename_i e e' l hx
  obtain⟨_,hu,_⟩:=hl.slice
  rw[hx]at hv
  simp only[VR]at hv
  have hv:=V.slice.1 hv
  simp only[Rd,fQ,fB]at hv
  obtain⟨ad,cap,hv,_⟩:=hv
  refine a6 (o4 ho ha w5 (n:=ℓ l) λty=>by rw[hv];exact yP ht3 hu _ _ _) (hn _ [] [] _ _ _ _ h (.refl hc.mem) (.mkInt _ _))
 ·rename_i n e n' e' l hx
  obtain⟨_,hu,_⟩:=hl.arr
  refine a6 (o4 ho ha w5 (n:=n) λty=>acg ht3 hu _) (hn _ [] [] _ _ _ _ h (.refl hc.mem) (.mkInt _ _))
 ·rename_i s hx
  rw[hx]at hv
  refine a6 (o4 ho ha w5 (n:=ByteArray.size s) λty=>by rw[hv.str];exact acf ht3 hl.str _) (hn _ [] [] _ _ _ _ h (.refl hc.mem) (.mkInt _ _))
 ·rename_i e hx
  obtain⟨_,hu,_⟩:=hl.slice
  rw[hx]at hv
  simp only[VR]at hv
  obtain⟨ad,hv⟩:=hv
  refine a6 (o4 ho ha w5 (n:=0) λty=>by rw[hv];exact yP ht3 hu _ _ _) (hn _ [] [] _ _ _ _ h (.refl hc.mem) (.mkInt _ _))
 ·rename_i e id hx
  obtain⟨_,hu,_⟩:=hl.slice
  rw[hx]at hv
  simp only[VR]at hv
  split at h
  ·rename_i e' l bg
   obtain⟨ad,cap,hh⟩:=(hc.mem.jY id _ bg).GG
   refine a6 (o4 ho ha w5 (n:=l.length) λty=>by rw[hv.2,hh];exact yP ht3 hu _ _ _) (hn _ [id] [] _ _ _ _ h (.refl hc.mem) (.mkInt _ _))
  ·rename_i e' l bg
   obtain⟨ad,cap,hh⟩:=(hc.mem.jY id _ bg).Ye
   refine a6 (o4 ho ha w5 (n:=l.length) λty=>by rw[hv.2,hh];exact yP ht3 hu _ _ _) (hn _ [id] [] _ _ _ _ h (.refl hc.mem) (.mkInt _ _))
  ·cases h
 ·cases h
theorem N6{H:Nat→Option br}(up:Bool): ∀(xs:List bA) (x:bA) (v:Value) (vs:List Value) (K:bA→Option α),VR w M H ν x v→jO w M H ν xs vs→mmK up x xs K=some r→
  ∃x' v',K x'=some r∧(vs.foldlM (if up then Builtin.max2 else Builtin.min2) v).run P w= .ok v' w∧VR w M H ν x' v'
 |[],x,v,[],K,hx,_,h=>⟨x,v,h,by simp,hx⟩
 |[],_,_,_::_,_,_,hs,_=>by simp[jO]at hs
 |_::_,_,_,[],_,_,hs,_=>by simp[jO]at hs
 |y::xs,x,v,u::vs,K,hx,hs,h=>by
  simp only[jO]at hs
  obtain⟨hy,hs⟩:=hs
  unfold mmK at h
  obtain⟨k,m,e1,h1⟩:=n7 h
  obtain⟨k',n,e2,h2⟩:=n7 h1
  clear h h1
  split at h2
  ·rename_i hk
   subst hk
   rw[e1]at hx;rw[e2]at hy
   have hx:=hx.int
   have hy:=hy.int
   obtain⟨x',v',hK,dF,hV⟩:=N6 up xs _ (.int k (cond up (mx m n) (mn m n))) vs K (.mkInt _ _) hs h2
   refine⟨x',v',hK,?_,hV⟩
   rw[List.foldlM_cons,Sem.run_bind]
   have:((if up then Builtin.max2 else Builtin.min2) v u).run P w= .ok (.int k (cond up (mx m n) (mn m n))) w:=by
    rw[hx,hy]
    cases up
    ·simp[Builtin.min2,X3]
    ·simp[Builtin.max2,aiM]
   rw[this]
   exact dF
  ·cases h2
theorem aiS(hc:Core c σ a.tmps w M ν)(up:Bool){args:Array Operand}{ts:Array TypeId}{x:Operand}{xs:List Operand}(ho:o.op= .call {callee:= .builtin (if up then .max else .min),args,argTypes:=ts})(ha:args.toList=x::xs){K:g7 α}
  (h:mmK up (σ.ρ x) (xs.map σ.ρ) (λv=>K v [] [])=some r) (hn:fK c σ a o w M ν K r next):o.wp P a w next Q:=by
 obtain⟨x',v',hK,dF,hV⟩:=N6 (P:=P) up (xs.map σ.ρ) (σ.ρ x) (a.eval x) (xs.map a.eval) _ (hc.ev x) (hc.evs xs) h
 refine a6 ?_ (hn _ [] [] _ _ _ _ hK (.refl hc.mem) hV)
 obtain⟨cs,hr⟩:=n6 (P:=P) (ρ:=a.eval) ho (w:=w)
 rw[hr]
 have hm:(args.map a.eval).toList=a.eval x::xs.map a.eval:=by simp[ha]
 cases up
 ·simp only[jM,fC,builtin,Builtin.min_,hm,Sem.run_bind]at dF ⊢
  rw[dF];simp
 ·simp only[g9,builtin,Builtin.max_,hm,Sem.run_bind]at dF ⊢
  rw[dF];simp
theorem Ji{ρ:Operand→Value}{t:TypeId}{x i:Operand}(ho:o.op= .index t x i){k:IntKind}{n:Int}{s:ByteArray}
  (hu:P.underlying t=some .string) (hx:ρ x= .string s) (hi:ρ i= .int k n) (h0:0≤n) (h1:n<(s.size:Int)):
  (execOp ρ o).run P w= .ok (.value (.int .u8 ((s.data.getD n.toNat 0).toNat:Int))) w:=by
 have eU:n.toNat<s.size:=ω
 have hs:s[n.toNat]? =some (s[n.toNat]'eU):=by simp[eU]
 have he:s[n.toNat]'eU=s.data.getD n.toNat 0:=by
  have xJ:n.toNat<s.data.size:=eU
  rw[Array.getD,dif_pos xJ];rfl
 simp[execOp,ho,hx,hi,Instr.index,asIntOf,run_underlying hu,h0,hs,he]
theorem Yf(hE:EnvTy P E)(hc:Core c σ a.tmps w M ν){t:TypeId}{x i:Operand}(ho:o.op= .index t x i){K:g7 α}{τ:Ty}(ht:E.ty t=some τ)
  (h:xw τ (σ.ρ x) (σ.ρ i) (λv=>K v [] [])=some r) (hn:fK c σ a o w M ν K r next):o.wp P a w next Q:=by
 unfold xw at h
 obtain⟨k,n,hi,h2⟩:=n7 h
 clear h
 have h:=h2
 clear h2
 have T0:=hc.ev i
 rw[hi]at T0
 have T0:=T0.int
 have hv:=hc.ev x
 have zq:=hE.ty t τ ht
 split at h
 ·rename_i len e υ l hx
  obtain⟨e',RT,hle⟩:=zq.arr
  obtain⟨e1,h⟩:=bx h
  subst e1
  obtain⟨ka,h⟩:=cB h
  obtain⟨h0,h1⟩:=vA ka
  rw[hx]at hv
  simp only[VR]at hv
  obtain⟨cs,hu,hr⟩:=hv.agg rfl
  have eQ:=hr.idx (i:=n.toNat) ω
  refine a6 (Jg ho RT hle hu T0 h0 h1 eQ) (hn _ [] [] _ _ _ _ h (.refl hc.mem) ?_)
  simp only[VR]
  exact V.ck eQ
 ·rename_i s hx
  obtain⟨ka,h⟩:=cB h
  obtain⟨h0,h1⟩:=vA ka
  rw[hx]at hv
  refine a6 (Ji ho zq.str hv.str T0 h0 h1) (hn _ [] [] _ _ _ _ h (.refl hc.mem) (.mkInt _ _))
 ·cases h
theorem mD(τ:Ty):τ.cC.length=τ.size:=(Rd.zero default (λ_=>False) τ).length
theorem ES{z:Array Value}{n i s:Nat}(hz:z.size=s)(hi:i*s+s≤n):((madeCells z n).toList.drop (i*s)).take s=z.toList:=by
 apply AO
 intro j
 rw[mS]
 split
 ·rename_i hj
  rw[mT,iz,iz]
  simp only[madeCells,Array.getElem?_map]
  rw[Array.getElem?_range,aj ω]
  simp only[Option.map_some]
  have:(i*s+j)%z.size=j:=by rw[hz,Gh,Nat.mul_add_mod,Nat.mod_eq_of_lt hj]
  rw[this,Nw ω,getElem!_pos z j ω]
 ·rename_i hj
  rw[iz,NC ω]
theorem pF.made(w:World)(M:Nat→Prop)(e:Ty){n l:Nat}(h:l*e.size≤n):pF w M e (madeCells (ck e e.cC).cells n).toList (List.replicate l e.zero):=by
 intro i hi
 rw[c4]at hi
 have:=eC (s:=e.size) hi
 rw[ES (by rw[←bk,fD,mD]) ω,fD,ND]
 exact Rd.zero w M e
theorem CD{ρ:Operand→Value}{t:TypeId}{x y:Operand}(ho:o.op= .makeSlice t x y){v:Value}{w':World}(h:(Instr.makeSlice t (ρ x) (ρ y)).run P w= .ok v w'):(execOp ρ o).run P w= .ok (.value v) w':=by
 simp[execOp,ho,h]
theorem Ly(hE:EnvTy P E)(hc:Core c σ a.tmps w M ν){t:TypeId}{x y:Operand}(ho:o.op= .makeSlice t x y){K:g7 α}{e:Ty}(ht:E.ty t=some (.slice e)){id:Nat}
  (h:wQ (σ.ρ x) (λ_ l=>wQ (σ.ρ y) λ_ c=>cond (kT l c)
   (sf σ.H id (.own e []) (K (.ref id) [id] [(id,some (.own e (List.replicate l.toNat e.zero)))])) none)=some r) (hn:fK c σ a o w M ν K r next):o.wp P a w next Q:=by
 obtain⟨k,l,hx,h1⟩:=n7 h
 obtain⟨k',n,hy,h2⟩:=n7 h1
 clear h h1
 obtain⟨hk,h⟩:=cB h2
 obtain⟨bg,h⟩:=mB h
 rw[JT]at hk
 obtain⟨h0,h1,h3⟩:=bt hk
 simp only[A2]at h3
 obtain⟨e',hu,hle⟩:=(hE.ty t _ ht).slice
 obtain⟨i,hi,hs,hz,hb⟩:=hle.base
 have LA:=hc.ev x
 have Bh:=hc.ev y
 rw[hx]at LA;rw[hy]at Bh
 have akg:(i.bytes:Int)*n≤281474976710656:=by
  have h4:(i.bytes:Int)≤2048:=ω
  have:(i.bytes:Int)*n≤2048*n:=AA h4 ω
  omega
 have dF:=run_make (P:=P) w t e' i _ hu hi hz k k' l n h0 h1 akg ω
 have hlen:(List.replicate l.toNat e.zero).length=l.toNat:=c4
 have gy:=Tr.row hc.mem bg e' (e:=e) (cs:=madeCells (ck e e.cC).cells (n.toNat*i.size)) (l:=List.replicate l.toNat e.zero) (cap:=n.toNat) (by rw[hlen];omega) (by simp[maxLen];omega)
  (by rw[size_madeCells,hs]) (pF.made w M e (uD ω ω))
 refine a6 (CD ho (by rw[LA.int,Bh.int];exact dF)) (hn _ _ _ _ _ _ _ h gy ?_)
 simp only[VR]
 exact⟨by show cn σ.H id _ id≠none;rw[ay];simp,by simp[updν]⟩
end VM
end
section
namespace VM
open Go
variable{P:Program}{E:Env}{o:Oper}{a:Act}{w:World}{M:Nat→Prop}{ν:Nat→Value}{σ:St}{c:Ctx}{α:Type}{r:α}{next:Act→World→Prop}{Q:Exit→Act→World→Prop}
theorem Yg(off:Nat)(new cs:Array Value)(h:off+new.size≤cs.size):
  (new.zipIdx.foldl (λcs (x:Value×Nat)=>cs.setIfInBounds (off+x.2) x.1) cs)=(eM cs.toList off new.toList).toArray:=by
 have h1:new.zipIdx.foldl (λcs (x:Value×Nat)=>cs.setIfInBounds (off+x.2) x.1) cs=(new.toList.zipIdx 0).foldl (λcs (x:Value×Nat)=>cs.setIfInBounds (off+x.2) x.1) cs:=by
  rw[←Array.foldl_toList,Array.toList_zipIdx]
 rw[h1]
 obtain⟨hs,hk⟩:=Great.foldl_set off new.toList 0 cs
 apply Array.ext_getElem?
 intro k
 rw[hk k,←iz (xs:=cs)]
 have hl:new.toList.length=new.size:=bk
 have hc:cs.toList.length=cs.size:=bk
 unfold eM
 rw[F2]
 by_cases h2:k<off
 ·rw[ah ω,bE,tA (by rw[bZ];omega),List.getElem?_take_of_lt h2]
 ·by_cases h3:k<off+new.size
  ·rw[aj ω,tA (by rw[aS,bZ];omega),pz (by rw[bZ];omega),bZ]
   congr 1
   omega
  ·rw[ah ω,pz (by rw[aS,bZ];omega),aS,bZ,mT]
   congr 1
   omega
theorem yQ{place:Nat→Option (Nat×Nat)}{cs:Array Value}{i:Nat}{v:Value}{rest:List (Nat×Value)}{off s:Nat}(hp:place i=some (off,s))(hs:v.cells.size=s)(h:off+s≤cs.size):
  Instr.fill place cs ((i,v)::rest)=Instr.fill place (eM cs.toList off v.cells.toList).toArray rest:=by
 have h1: ¬(decide (v.cells.size≠s)||decide (off+v.cells.size>cs.size))=true:=by simp[hs];omega
 conv=>lhs;unfold Instr.fill
 rw[hp]
 simp only
 rw[ah h1]
 congr 1
 exact Yg off v.cells cs ω
theorem sq(a:Act)(ps:Array (Nat×Operand)):(ps.map λ(i,x)=>(i,a.eval x)).toList=ps.toList.map λp=>(p.1,a.eval p.2):=by
 rw[Array.toList_map]
def PR(w:World)(M:Nat→Prop)(H:Nat→Option br)(ν:Nat→Value):List (Nat×bA)→List (Nat×Value)→Prop
 |[],[]=>True
 |p::ps,q::qs=>p.1=q.1∧VR w M H ν p.2 q.2∧PR w M H ν ps qs
 |_,_=>False
theorem PR.cg{w':World}{M':Nat→Prop}{H H':Nat→Option br}{ν':Nat→Value}(k:fI w M w' M')(g:uh H ν H' ν'): ∀{ps:List (Nat×bA)} {qs:List (Nat×Value)},PR w M H ν ps qs→PR w' M' H' ν' ps qs
 |[],[],_=>trivial
 |_::_,_::_,h=>⟨h.1,h.2.1.cg k g,PR.cg k g h.2.2⟩
 |[],_::_,h=>h.elim
 |_::_,[],h=>h.elim
theorem Core.pr(hc:Core c σ a.tmps w M ν): ∀ps:List (Nat×Operand),PR w M σ.H ν (ps.map λp=>(p.1,σ.ρ p.2)) (ps.map λp=>(p.1,a.eval p.2))
 |[]=>trivial
 |p::ps=>⟨rfl,hc.ev p.2,hc.pr ps⟩
theorem DS{e:Ty}{n:Nat}{H:Nat→Option br}: ∀(ps:List (Nat×bA)) (qs:List (Nat×Value)) (H1:Nat→Option br) (M:Nat→Prop) (l:List e.den) (cs:Array Value) (rd:List Nat) (ups:jF) (K:List e.den→List Nat→jF→Option α),
  Fz H H1→Mem c H1 w M ν→PR w M H1 ν ps qs→l.length=n→cs.size=n*e.size→pF w M e cs.toList l→H1=c0 H ups→xr e H n ps l rd ups K=some r→
  ∃l' yJ kN M' cs',K l' yJ kN=some r∧Tr c H1 w M ν (c0 H kN) w M' ν∧Fz H (c0 H kN)∧l'.length=n∧cs'.size=n*e.size∧pF w M' e cs'.toList l'∧
   Instr.fill (λi=>some (i*e.size,e.size)) cs qs=some cs':=by
 intro ps
 induction ps with
 |nil=>
  intro qs H1 M l cs rd ups K hz hm hp hl hs hr hH h
  cases qs with
  |cons _ _=>exact hp.elim
  |nil=>exact⟨l,rd,ups,M,cs,h,hH▸Tr.refl hm,hH▸hz,hl,hs,hr,rfl⟩
 |cons p ps ih=>
  intro qs H1 M l cs rd ups K hz hm hp hl hs hr hH h
  cases qs with
  |nil=>exact hp.elim
  |cons q qs=>
   obtain⟨h1,h2,h3⟩:=hp
   unfold xr at h
   obtain⟨hb,h⟩:=cB h
   have eU:p.1<n:=by simpa [AZ]using hb
   obtain⟨y,Yh,CE,M1,h,gy,hV,zC,_⟩:=kY hz hm h2 h
   have hlen:(q.2.cells).size=e.size:=by rw[←bk];exact hV.cells.length
   have hmul:=eC (s:=e.size) eU
   have so:=pF.set (hr.cg gy.cg) (by rw[hl,bk,hs];exact aH _) (i:=p.1) ω hV.cells
   obtain⟨l',yJ,kN,M',cs',hK,Sd,Au,IZ,T1,eQ,hf⟩:=ih qs (c0 H1 CE) M1 (l.set p.1 y) (eM cs.toList (p.1*e.size) q.2.cells.toList).toArray (Yh++rd) (ups++CE) K zC gy.mem (h3.cg gy.cg gy.goes)
    (by rw[bN];exact hl) (by rw[jf,eI (by rw[bk,bk];omega),bk,hs]) so (by rw[fJ,hH]) h
   refine⟨l',yJ,kN,M',cs',hK,gy.trans Sd,Au,IZ,T1,eQ,?_⟩
   rw[yQ (off:=p.1*e.size) (s:=e.size) (by rw[h1]) hlen ω]
   exact hf
theorem LB{τ:Ty}{H:Nat→Option br}{place:Nat→Option (Nat×Nat)}(Bl: ∀(x:τ.den) n υ y o,DL τ x n υ y o→place n=some (o,υ.size)):
  ∀(ps:List (Nat×bA)) (qs:List (Nat×Value)) (H1:Nat→Option br) (M:Nat→Prop) (x:τ.den) (cs:Array Value) (rd:List Nat) (ups:jF) (K:τ.den→List Nat→jF→Option α),
  Fz H H1→Mem c H1 w M ν→PR w M H1 ν ps qs→Rd w M τ cs.toList x→H1=c0 H ups→me τ H ps x rd ups K=some r→
  ∃x' yJ kN M' cs',K x' yJ kN=some r∧Tr c H1 w M ν (c0 H kN) w M' ν∧Fz H (c0 H kN)∧Rd w M' τ cs'.toList x'∧Instr.fill place cs qs=some cs'∧
   ∀m υ,A3 τ m=some υ→(ps.all λp=> !(Nat.beq p.1 m))=true→(cs'.toList.drop (gA τ m)).take υ.size=(cs.toList.drop (gA τ m)).take υ.size:=by
 intro ps
 induction ps with
 |nil=>
  intro qs H1 M x cs rd ups K hz hm hp hr hH h
  cases qs with
  |cons _ _=>exact hp.elim
  |nil=>exact⟨x,rd,ups,M,cs,h,hH▸Tr.refl hm,hH▸hz,hr,rfl,λ_ _ _ _=>rfl⟩
 |cons p ps ih=>
  intro qs H1 M x cs rd ups K hz hm hp hr hH h
  cases qs with
  |nil=>exact hp.elim
  |cons q qs=>
   obtain⟨h1,h2,h3⟩:=hp
   unfold me at h
   obtain⟨υ,y0,of,hf,h⟩:=pV h
   obtain⟨y,Yh,CE,M1,h,gy,hV,zC,_⟩:=kY hz hm h2 h
   obtain⟨υ',y',o',k',zQ,jt,Bi⟩:=kZ h
   obtain⟨rfl,rfl⟩:=zQ.eq
   obtain⟨rfl,rfl⟩:=hf.eq
   obtain⟨e1,DT⟩:=bx jt
   obtain⟨x',oW,_,kB⟩:=Bi _ _ DT
   have hlen:(q.2.cells).size=(tb τ p.1).size:=by rw[←bk];exact hV.cells.length
   have hb:=hf.bound
   have Ft:=hr.length
   rw[bk]at Ft
   obtain⟨x2,yJ,kN,M',cs',hK,Sd,Au,eQ,Fu,Se⟩:=ih qs (c0 H1 CE) M1 x' (eM cs.toList (gA τ p.1) q.2.cells.toList).toArray (Yh++rd) (ups++CE) K zC gy.mem (h3.cg gy.cg gy.goes)
    (kB w M1 _ _ (hr.cg gy.cg) hV.cells) (by rw[fJ,hH]) oW
   refine⟨x2,yJ,kN,M',cs',hK,gy.trans Sd,Au,eQ,?_,λm υ jt iQ=> ?_⟩
   ·rw[yQ (off:=gA τ p.1) (s:=(tb τ p.1).size) (by rw[←h1];exact Bl _ _ _ _ _ hf) hlen ω]
    exact Fu
   ·rw[xj,bM]at iQ
    rw[Se m υ jt iQ.2]
    obtain⟨y2,o2,hf2⟩:=n0 jt x
    obtain⟨e3,e4⟩:=hf2.eq
    subst e3 e4
    have kq:p.1≠m:=λe=>by have:=iQ.1;rw[e,pT]at this;cases this
    have hap:=hf.apart hf2 kq
    have vk:=hf2.bound
    show((eM cs.toList (gA τ p.1) q.2.cells.toList).drop _).take _=_
    rw[Fp (by rw[bk];omega) (by rw[bk,bk];omega)]
theorem gz.places: ∀(τ:Ty) (fs:Array Field) (n off:Nat),gz P τ (.inr (fs,n,off))→
  ∃ps,(fs.toList.drop n).mapM (λf=>(P.info? f.type).map λi=>(f.offset,i.size))=some ps∧ ∀(x:τ.den) m υ y o,DL τ x m υ y o→ps[m]? =some (off+o,υ.size)
 | .unit,fs,n,off,h=>by
  simp only[gz]at h
  refine⟨[],?_,λx m υ y o hf=>by cases hf⟩
  rw[jL (by rw[bk];omega)];rfl
 | .pair t b,fs,n,off,h=>by
  simp only[gz]at h
  obtain⟨f,hf,ho,ha,hb⟩:=h
  obtain⟨ps,I2,Fu⟩:=gz.places b fs (n+1) (off+t.size) hb
  obtain⟨i,hi,hs,_⟩:=(show kW P t f.type from ha).base
  have eU:n<fs.toList.length:=by rw[bk];exact(lG.1 hf).1
  have hfe:fs.toList[n]=f:=by rw[AH];exact(lG.1 hf).2
  refine⟨(off,t.size)::ps,?_,λx m υ y o zQ=> ?_⟩
  ·rw[qU eU,AU,I2,hfe,hi]
   simp[ho,hs]
  ·cases zQ with
   |here=>simp
   |there _ h'=>simp[Fu _ _ _ _ _ h',pS]
 | .int _,_,_,_,h| .bool,_,_,_,h| .str,_,_,_,h| .slice _,_,_,_,h| .arr _ _,_,_,_,h=>by simp[gz]at h
theorem kW.places{τ:Ty}{t:TypeId}(h:kW P τ t)(ha:τ.isAgg=true)(hn: ∀n e,τ≠ .arr n e):
  ∃fs ps,P.underlying t=some (.struct fs)∧fs.toList.mapM (λf=>(P.info? f.type).map λi=>(f.offset,i.size))=some ps∧ ∀(x:τ.den) m υ y o,DL τ x m υ y o→ps[m]? =some (o,υ.size):=by
 cases τ with
 |unit=>
  simp only[kW,gz]at h
  obtain⟨_,fs,hu,hs⟩:=h
  refine⟨fs,[],hu,?_,λx m υ y o hf=>by cases hf⟩
  have:fs.toList=[]:=vo (by rw[bk];exact hs)
  rw[this];rfl
 |pair t' b=>
  simp only[kW,gz]at h
  obtain⟨_,fs,f,hu,hf,ho,ha',hb⟩:=h
  have hg:gz P (.pair t' b) (.inr (fs,0,0)):=by
   simp only[gz]
   exact⟨f,hf,ho,ha',by simpa using hb⟩
  obtain⟨ps,I2,Fu⟩:=gz.places _ fs 0 0 hg
  exact⟨fs,ps,hu,I2,λx m υ y o zQ=>by simpa using Fu x m υ y o zQ⟩
 |arr n e=>exact absurd rfl (hn n e)
 |int _=>simp[Ty.isAgg]at ha
 |bool=>simp[Ty.isAgg]at ha
 |str=>simp[Ty.isAgg]at ha
 |slice _=>simp[Ty.isAgg]at ha
theorem vB{ρ:Operand→Value}{t:TypeId}{ps:Array (Nat×Operand)}(ho:o.op= .build t ps){v:Value}(h:(Instr.build t (ps.map λ(i,x)=>(i,ρ x))).run P w= .ok v w):(execOp ρ o).run P w= .ok (.value v) w:=by
 simp[execOp,ho,h]
theorem Bm{ρ:Operand→Value}{t:TypeId}{n:Nat}{ps:Array (Nat×Operand)}(ho:o.op= .buildSlice t n ps){v:Value}{w':World}(h:(Instr.buildSlice t n (ps.map λ(i,x)=>(i,ρ x))).run P w= .ok v w'):(execOp ρ o).run P w= .ok (.value v) w':=by
 simp[execOp,ho,h]
theorem VR.T2{H:Nat→Option br}{τ:Ty}(ha:τ.isAgg=true){cs:Array Value}{x:τ.den}(h:Rd w M τ cs.toList x):VR w M H ν (.val τ x) (.agg cs):=by
 simp only[VR,V];rw[aj ha];exact⟨cs,rfl,h⟩
theorem LC(hE:EnvTy P E)(hc:Core c σ a.tmps w M ν){t:TypeId}{ps:Array (Nat×Operand)}(ho:o.op= .build t ps){K:g7 α}{n:Nat}{e:Ty}(ht:E.ty t=some (.arr n e))
  (h:xr e σ.H n (partsOf σ.ρ ps) (List.replicate n e.zero) [] [] (λl rd ups=>K (.val (.arr n e) l) rd ups)=some r) (hn:fK c σ a o w M ν K r next):o.wp P a w next Q:=by
 have hl:=hE.ty t _ ht
 obtain⟨e',hu,hle⟩:=hl.arr
 obtain⟨i,hi,hs,hz,_⟩:=hl.base
 obtain⟨ie,hie,hes,_⟩:=hle.base
 have Yi:=Rd.arr.1 (Rd.zero w M (.arr n e))
 obtain⟨l',yJ,kN,M',cs',hK,gy,Au,IZ,T1,eQ,hf⟩:=DS (partsOf σ.ρ ps) (ps.toList.map λ(p:Nat×Operand)=>(p.1,a.eval p.2)) σ.H M (List.replicate n e.zero) (Ty.cC (.arr n e)).toArray [] [] _ (.refl _) hc.mem (hc.pr ps.toList)
  (by rw[c4]) (by rw[jf];exact Yi.2.1) Yi.2.2 rfl h
 refine a6 (vB ho (run_build w t _ cs' ?_)) (hn _ _ _ _ _ _ _ hK gy (VR.T2 rfl (Rd.arr.2 ⟨IZ,by rw[bk];exact T1,eQ⟩)))
 unfold Program.built
 rw[hi,hu]
 simp only[hz,hie,hes,sq]
 exact hf
theorem ET(hE:EnvTy P E)(hc:Core c σ a.tmps w M ν){t:TypeId}{ps:Array (Nat×Operand)}(ho:o.op= .build t ps){K:g7 α}{τ:Ty}(ht:E.ty t=some τ)(Yj: ∀n e,τ≠ .arr n e)
  (h:cond τ.isAgg (me τ σ.H (partsOf σ.ρ ps) τ.zero [] [] (λl rd ups=>K (ab0 E (partsOf σ.ρ ps) τ l) rd ups)) none=some r) (hn:fK c σ a o w M ν K r next):o.wp P a w next Q:=by
 obtain⟨Gt,h⟩:=cB h
 have hl:=hE.ty t _ ht
 obtain⟨fs,pl,hu,I2,Bl⟩:=hl.places Gt Yj
 obtain⟨i,hi,hs,hz,_⟩:=hl.base
 obtain⟨l',yJ,kN,M',cs',hK,gy,Au,eQ,hf,Se⟩:=LB (place:=(pl.toArray[·]?)) (λx n υ y o hf=>by simpa using Bl x n υ y o hf) (partsOf σ.ρ ps) (ps.toList.map λ(p:Nat×Operand)=>(p.1,a.eval p.2)) σ.H M τ.zero τ.cC.toArray [] [] _ (.refl _) hc.mem (hc.pr ps.toList)
  (Rd.zero w M τ) rfl h
 have hvr:VR w M' (c0 σ.H kN) ν (ab0 E (partsOf σ.ρ ps) τ l') (.agg cs'):=by
  unfold ab0
  split
  ·rename_i n e qP
   cases iQ:(partsOf σ.ρ ps).all λp=> !(Nat.beq p.1 n)
   ·exact VR.T2 Gt eQ
   ·have hq:=Lu qP
    show VR w M' (c0 σ.H kN) ν (.Ln τ l' n) (.agg cs')
    have hv:=VR.T2 (H:=c0 σ.H kN) (ν:=ν) Gt eQ
    simp only[VR]at hv ⊢
    refine⟨hv,cs',none,rfl,?_⟩
    have hfq:A3 τ n=some (.slice e):=by
     unfold gj at hq
     split at hq
     ·rename_i a ha
      rw[ha]
      have:=bt hq
      rw[this]
     ·cases hq
    have h2:=Se n _ hfq iQ
    have h3:=Cz hq
    simp only[cI,mz]at h3
    have h4:=fj (λl=>l[0]?) h2
    simp only[mS,mT,mz]at h4
    rw[aj (show 0<(Ty.slice e).size from Nat.one_pos),aj (show 0<(Ty.slice e).size from Nat.one_pos)]at h4
    rw[h4];exact h3
  ·exact VR.T2 Gt eQ
 refine a6 (vB ho (run_build w t _ cs' ?_)) (hn _ _ _ _ _ _ _ hK gy hvr)
 unfold Program.built
 rw[hi,hu]
 have hzc:(ck τ τ.cC).cells=τ.cC.toArray:=by apply g8;rw[fD]
 simp only[hz,I2,sq,hzc]
 exact hf
theorem Sf{ps:List (Nat×bA)}{τ:Ty}{n k:Nat}(h:Lo E ps τ=some (n,k)):(∃e,gj [.iD n] τ (.slice e)=true)∧(∀p∈ps,p.1=n→p.2= .ref k)∧ ∃p∈ps,p.1=n:=by
 unfold Lo at h
 split at h
 ·rename_i m e Vv qP
  split at h
  ·rename_i i j hf
   cases h
   refine⟨⟨e,Lu qP⟩,λp hp Yk=> ?_,?_⟩
   ·have:p∈ps.filter λp=>Nat.beq p.1 n:=rS.2 ⟨hp,by rw[Yk];exact pT n⟩
    rw[hf,cr]at this
    rw[this]
   ·have:(i,bA.ref k)∈ps.filter λp=>Nat.beq p.1 n:=by rw[hf];simp
    obtain⟨h1,h2⟩:=rS.1 this
    exact⟨_,h1,fy h2⟩
  ·cases h
 ·cases h
theorem Jj{τ:Ty}{H:Nat→Option br}{place:Nat→Option (Nat×Nat)}(Bl: ∀(x:τ.den) n υ y o,DL τ x n υ y o→place n=some (o,υ.size)){n k:Nat}{e:Ty}(hq:A3 τ n=some (.slice e))(Cx:(ν k).cells= #[ν k]):
  ∀(ps:List (Nat×bA)) (qs:List (Nat×Value)) (H1:Nat→Option br) (M:Nat→Prop) (x:τ.den) (cs real:Array Value) (u:Value) (rd:List Nat) (ups:jF) (K:τ.den→List Nat→jF→Option α),
  Fz H H1→Mem c H1 w M ν→PR w M H1 ν ps qs→(∀p∈ps,p.1=n→p.2= .ref k)→Rd w M τ cs.toList x→real.toList=eM cs.toList (gA τ n) [u]→H1=c0 H ups→me τ H (xy n ps) x rd ups K=some r→
  ∃x' yJ kN M' u',∃(cs' Bn:Array Value),K x' yJ kN=some r∧Tr c H1 w M ν (c0 H kN) w M' ν∧Fz H (c0 H kN)∧Rd w M' τ cs'.toList x'∧Instr.fill place real qs=some Bn∧Bn.toList=eM cs'.toList (gA τ n) [u']∧
   (u'=ν k∨(u'=u∧ ∀p∈ps,p.1≠n)):=by
 intro ps
 induction ps with
 |nil=>
  intro qs H1 M x cs real u rd ups K hz hm hp iQ hr hu hH h
  cases qs with
  |cons _ _=>exact hp.elim
  |nil=>exact⟨x,rd,ups,M,u,cs,real,h,hH▸Tr.refl hm,hH▸hz,hr,rfl,hu,.inr ⟨rfl,λ_ h=>by simp at h⟩⟩
 |cons p ps ih=>
  intro qs H1 M x cs real u rd ups K hz hm hp iQ hr hu hH h
  cases qs with
  |nil=>exact hp.elim
  |cons q qs=>
   obtain⟨h1,h2,h3⟩:=hp
   have aiT: ∀p∈ps,p.1=n→p.2= .ref k:=λp hp=>iQ p (aZ _ hp)
   obtain⟨yn,on,hfn⟩:=n0 hq x
   have hbn:=hfn.bound
   have hon:=hfn.eq.2
   subst hon
   rw[show(Ty.slice e).size=1 from rfl]at hbn
   have Ft:=hr.length
   rw[bk]at Ft
   have hrs:real.size=cs.size:=by
    have h0:gA τ n+[u].length≤cs.toList.length:=by rw[bk];exact cv hbn (Nat.le_of_eq Ft.symm)
    rw[←bk,hu,eI h0,bk]
   by_cases Yk:p.1=n
   ·
    have Bo:=iQ p bq Yk
    have hb:Nat.beq p.1 n=true:=by rw[Yk];exact pT n
    have h:me τ H ((p.1,bA.emp)::xy n ps) x rd ups K=some r:=by
     have e1:xy n (p::ps)=(p.1,bA.emp)::xy n ps:=by simp[xy,hb]
     rw[e1]at h;exact h
    unfold me at h
    obtain⟨υ,y0,of,hf,h⟩:=pV h
    have hve:VR w M H1 ν .emp (.slice none 0 0):=by simp only[VR];exact⟨none,rfl⟩
    obtain⟨y,Yh,CE,M1,h,gy,hV,zC,_⟩:=kY hz hm hve h
    obtain⟨υ',y',o',k',zQ,jt,Bi⟩:=kZ h
    obtain⟨rfl,rfl⟩:=zQ.eq
    obtain⟨rfl,rfl⟩:=hf.eq
    obtain⟨e1,DT⟩:=bx jt
    obtain⟨x',oW,_,kB⟩:=Bi _ _ DT
    have qQ:(tb τ p.1).size=1:=by
     have h5:=hfn.eq.1
     rw[Yk,←h5];rfl
    rw[Bo]at h2
    simp only[VR]at h2
    have Yl:=kB w M1 _ _ (hr.cg gy.cg) hV.cells
    have hcn:(Value.slice none 0 0).cells.toList=[.slice none 0 0]:=rfl
    rw[hcn]at Yl
    obtain⟨x2,yJ,kN,M',u',cs',Bn,hK,Sd,Au,eQ,Fu,VC,hor⟩:=ih qs (c0 H1 CE) M1 x' (eM cs.toList (gA τ p.1) [.slice none 0 0]).toArray (eM real.toList (gA τ n) [ν k]).toArray (ν k) (Yh++rd) (ups++CE) K zC gy.mem (h3.cg gy.cg gy.goes) aiT
     Yl (by
      show eM real.toList (gA τ n) [ν k]=eM (eM cs.toList (gA τ p.1) [.slice none 0 0]) (gA τ n) [ν k]
      rw[hu,Yk,uR (by rw[bk];omega),uR (by rw[bk];omega)]) (by rw[fJ,hH]) oW
    refine⟨x2,yJ,kN,M',u',cs',Bn,hK,gy.trans Sd,Au,eQ,?_,VC,.inl (hor.elim id λh=>h.1)⟩
    have hpq:place q.1=some (gA τ n,1):=by rw[←h1,Yk];exact Bl _ _ _ _ _ hfn
    rw[yQ (off:=gA τ n) (s:=1) hpq (by rw[h2.2,Cx];rfl) ω,h2.2,Cx]
    exact Fu
   ·have hb:Nat.beq p.1 n=false:=by
     cases hb:Nat.beq p.1 n
     ·rfl
     ·exact absurd (fy hb) Yk
    have h:me τ H (p::xy n ps) x rd ups K=some r:=by
     have e1:xy n (p::ps)=p::xy n ps:=by simp[xy,hb]
     rw[e1]at h;exact h
    unfold me at h
    obtain⟨υ,y0,of,hf,h⟩:=pV h
    obtain⟨y,Yh,CE,M1,h,gy,hV,zC,_⟩:=kY hz hm h2 h
    obtain⟨υ',y',o',k',zQ,jt,Bi⟩:=kZ h
    obtain⟨rfl,rfl⟩:=zQ.eq
    obtain⟨rfl,rfl⟩:=hf.eq
    obtain⟨e1,DT⟩:=bx jt
    obtain⟨x',oW,_,kB⟩:=Bi _ _ DT
    have hlen:(q.2.cells).size=(tb τ p.1).size:=by rw[←bk];exact hV.cells.length
    have hbf:=hf.bound
    have hap:=hf.apart hfn Yk
    rw[show(Ty.slice e).size=1 from rfl]at hap
    obtain⟨x2,yJ,kN,M',u',cs',Bn,hK,Sd,Au,eQ,Fu,VC,hor⟩:=ih qs (c0 H1 CE) M1 x' (eM cs.toList (gA τ p.1) q.2.cells.toList).toArray (eM real.toList (gA τ p.1) q.2.cells.toList).toArray u (Yh++rd) (ups++CE) K zC gy.mem (h3.cg gy.cg gy.goes) aiT
     (kB w M1 _ _ (hr.cg gy.cg) hV.cells) (by
      show eM real.toList (gA τ p.1) q.2.cells.toList=eM (eM cs.toList (gA τ p.1) q.2.cells.toList) (gA τ n) [u]
      rw[hu]
      have hlu:[u].length=1:=rfl
      have T3:q.2.cells.toList.length=(tb τ p.1).size:=by rw[bk];exact hlen
      exact N0 (a:=[u]) (b:=q.2.cells.toList) (by rw[hlu,T3];omega) (by rw[hlu,bk];omega) (by rw[T3,bk];omega)) (by rw[fJ,hH]) oW
    refine⟨x2,yJ,kN,M',u',cs',Bn,hK,gy.trans Sd,Au,eQ,?_,VC,hor.imp id λh=>⟨h.1,λp' RS=>(a8.1 RS).elim (λe=>e▸Yk) (h.2 p')⟩⟩
    rw[yQ (off:=gA τ p.1) (s:=(tb τ p.1).size) (by rw[←h1];exact Bl _ _ _ _ _ hf) hlen ω]
    exact Fu
theorem N7(hE:EnvTy P E)(hc:Core c σ a.tmps w M ν){t:TypeId}{ps:Array (Nat×Operand)}(ho:o.op= .build t ps){K:g7 α}{τ:Ty}(ht:E.ty t=some τ)(Yj: ∀n e,τ≠ .arr n e){n k:Nat}(hs:Lo E (partsOf σ.ρ ps) τ=some (n,k))
  (h:(match σ.H k with
   |some (.own _ _)=>cond τ.isAgg (me τ σ.H (xy n (partsOf σ.ρ ps)) τ.zero [] [] λx rd ups=>K (.Ja τ x n k) (k::rd) ups) none
   |_=>none)=some r) (hn:fK c σ a o w M ν K r next):o.wp P a w next Q:=by
 obtain⟨⟨e,hq⟩,iQ,p0,hp0,avr⟩:=Sf hs
 split at h
 ·rename_i e' l hk
  obtain⟨Gt,h⟩:=cB h
  have hfq:A3 τ n=some (.slice e):=by
   unfold gj at hq
   split at hq
   ·rename_i a ha
    rw[ha]
    rw[show a= .slice e from bt hq]
   ·cases hq
  have Cx:(ν k).cells= #[ν k]:=by
   have:=hc.mem.jY k _ hk
   simp only[ER]at this
   rcases this with⟨_,ad,hv⟩|⟨b,cs,t,cap,hv,_⟩<;>rw[hv]<;>rfl
  have hl:=hE.ty t _ ht
  obtain⟨fs,pl,hu,I2,Bl⟩:=hl.places Gt Yj
  obtain⟨i,hi,qQ,hz,_⟩:=hl.base
  have RV:τ.cC[gA τ n]? =some (.slice none 0 0):=by simpa [cI]using Cz hq
  obtain⟨x',yJ,kN,M',u',cs',Bn,hK,gy,Au,eQ,hf,VC,hor⟩:=Jj (place:=(pl.toArray[·]?)) (λx n υ y o hf=>by simpa using Bl x n υ y o hf) hfq Cx (partsOf σ.ρ ps) (ps.toList.map λ(p:Nat×Operand)=>(p.1,a.eval p.2)) σ.H M τ.zero τ.cC.toArray τ.cC.toArray (.slice none 0 0) [] [] _ (.refl _) hc.mem (hc.pr ps.toList) iQ
   (Rd.zero w M τ) (Gn RV).symm rfl h
  have hu2:u'=ν k:=hor.elim id λh=>absurd avr (h.2 p0 hp0)
  subst hu2
  refine a6 (vB ho (run_build w t _ Bn ?_)) (hn _ _ _ _ _ _ _ hK gy ?_)
  ·unfold Program.built
   rw[hi,hu]
   have hzc:(ck τ τ.cC).cells=τ.cC.toArray:=by apply g8;rw[fD]
   simp only[hz,I2,sq,hzc]
   exact hf
  ·simp only[VR]
   refine⟨Bn,cs'.toList,rfl,eQ,VC,?_,rF hq⟩
   obtain⟨e1,Gz,_⟩:=gy.goes.jY k _ hk
   rw[Gz];simp
 ·cases h
theorem Jk(hE:EnvTy P E)(hc:Core c σ a.tmps w M ν){t:TypeId}{n:Nat}{ps:Array (Nat×Operand)}(ho:o.op= .buildSlice t n ps){K:g7 α}{e:Ty}(ht:E.ty t=some (.slice e)){id:Nat}
  (h:cond (Nat.ble (n*(e.size+1)) 16777216) (sf σ.H id (.own e []) (xr e σ.H n (partsOf σ.ρ ps) (List.replicate n e.zero) [] [] λl rd ups=>K (.ref id) (id::rd) (ups++[(id,some (.own e l))]))) none=some r)
  (hn:fK c σ a o w M ν K r next):o.wp P a w next Q:=by
 obtain⟨hb,h⟩:=cB h
 obtain⟨bg,h⟩:=mB h
 have hb:=F3 hb
 rw[Nat.mul_add,Nat.mul_one]at hb
 obtain⟨e',hu,hle⟩:=(hE.ty t _ ht).slice
 obtain⟨ie,hie,hes,hz,_⟩:=hle.base
 obtain⟨l',yJ,kN,M',cs',hK,gy,Au,IZ,T1,eQ,hf⟩:=DS (partsOf σ.ρ ps) (ps.toList.map λ(p:Nat×Operand)=>(p.1,a.eval p.2)) σ.H M (List.replicate n e.zero) (madeCells (ck e e.cC).cells (n*e.size)) [] [] _ (.refl _) hc.mem (hc.pr ps.toList)
  (by rw[c4]) (size_madeCells _ _) (pF.made w M e (aH _)) rfl h
 have aj5:c0 σ.H kN id=none:=Au.none bg
 have xF:=gy.trans (Tr.row gy.mem aj5 e' (e:=e) (cs:=cs') (l:=l') (cap:=n) ω (by simp[maxLen];omega) T1 eQ)
 have dF:(Instr.buildSlice t n (ps.map λ(i,x)=>(i,a.eval x))).run P w= .ok (.slice (some ⟨w.heap.size,0,none⟩) n n) (w.alloc (.cells cs' e')):=by
  by_cases h0:n*e.size=0
  ·rw[h0]at hf
   have hm0:madeCells (ck e e.cC).cells 0=(Array.range 0).map λi:Nat=>(#[]:Array Value)[i%0]! :=by simp[madeCells]
   rw[hm0]at hf
   rw[←sq]at hf
   simp[Instr.buildSlice,run_underlying hu,Go.sizeOf,typeInfo,hie,hes,h0,newRow]at hf ⊢
   simp[hf]
  ·refine run_buildSlice w t e' n _ cs' ie _ hu hie hz (by rw[hes];omega) (by rw[hes];exact h0) ?_
   rw[hes,sq]
   exact hf
 refine a6 (Bm ho dF) (hn _ _ _ _ _ (λb=>M' b∨b=w.heap.size) (updν ν id (.slice (some ⟨w.heap.size,0,none⟩) l'.length n)) hK ?_ ?_)
 ·rw[fJ];exact xF
 ·simp only[VR]
  exact⟨by rw[fJ];show cn _ id _ id≠none;rw[ay];simp,by simp[updν,IZ]⟩
end VM
end
section
namespace VM
open Go
variable{P:Program}{E:Env}{o:Oper}{a:Act}{w:World}{M:Nat→Prop}{ν:Nat→Value}{σ:St}{c:Ctx}{α:Type}{r:α}{next:Act→World→Prop}{Q:Exit→Act→World→Prop}
def Bnd(o:Option Value)(d l:Int):Prop:=(o=none∧l=d)∨ ∃k,o=some (.int k l)
theorem pX(hc:Core c σ a.tmps w M ν){x:Option Operand}{d:Int}{k:Int→Option α}(h:zm (x.map σ.ρ) d k=some r): ∃l,k l=some r∧Bnd (x.map a.eval) d l:=by
 cases x with
 |none=>exact⟨d,h,.inl ⟨rfl,rfl⟩⟩
 |some x=>
  obtain⟨i,n,hx,h⟩:=n7 (h:wQ (σ.ρ x) (λ_ x=>k x)=some r)
  have hv:=hc.ev x
  rw[hx]at hv
  exact⟨n,h,.inr ⟨i,by rw[←hv.int];rfl⟩⟩
theorem wE{s:Bool}{len cap:Nat}{lo hi mx:Option Value}{l h m:Int}(w6:Bnd lo 0 l)(JZ:Bnd hi len h)(Nj:Bnd mx cap m)(hm:mx.isNone=true∨hi.isSome=true)
  (h0:0≤l) (h1:l≤h) (h2:h≤m) (h3:m≤cap):(Instr.sliceBounds s len cap lo hi mx).run P w= .ok (l.toNat,h.toNat,m.toNat) w:=by
 have hb: ∀(k:IntKind) (i:Int) (y:Nat) cd,0≤i→i≤y→(Instr.sliceBound (.int k i) y cd).run P w= .ok i.toNat w:=by
  intro k i y cd h1 h2
  simp[Instr.sliceBound,asIntOf,h1,h2]
 have jt:((m.toNat:Nat):Int)=m:=ω
 have hh':((h.toNat:Nat):Int)=h:=ω
 rcases Nj with⟨rfl,rfl⟩|⟨km,rfl⟩
 ·rcases JZ with⟨rfl,rfl⟩|⟨kh,rfl⟩
  ·rcases w6 with⟨rfl,rfl⟩|⟨kl,rfl⟩
   ·simp[Instr.sliceBounds]
   ·simp[Instr.sliceBounds,hb kl l len _ h0 h1]
  ·rcases w6 with⟨rfl,rfl⟩|⟨kl,rfl⟩
   ·simp[Instr.sliceBounds,hb kh h cap _ ω h2]
   ·simp[Instr.sliceBounds,hb kh h cap _ ω h2,hb kl l h.toNat _ h0 ω]
 ·rcases JZ with⟨rfl,rfl⟩|⟨kh,rfl⟩
  ·simp at hm
  ·rcases w6 with⟨rfl,rfl⟩|⟨kl,rfl⟩
   ·simp[Instr.sliceBounds,hb km m cap _ ω h3,hb kh h m.toNat _ ω ω]
   ·simp[Instr.sliceBounds,hb km m cap _ ω h3,hb kh h m.toNat _ ω ω,hb kl l h.toNat _ h0 ω]
theorem Jl{ρ:Operand→Value}{t:TypeId}{x:Operand}{lo hi mx:Option Operand}(ho:o.op= .slice t x lo hi mx){s:ByteArray}{l h:Int}(hu:P.underlying t=some .string)(hx:ρ x= .string s)
  (w6:Bnd (lo.map ρ) 0 l) (JZ:Bnd (hi.map ρ) s.size h) (Nj:mx.isNone=true) (h0:0≤l) (h1:l≤h) (h2:h≤s.size):(execOp ρ o).run P w= .ok (.value (.string (s.extract l.toNat h.toNat))) w:=by
 have hm:mx=none:=by simpa using Nj
 subst hm
 have hb:=wE (P:=P) (w:=w) (s:=false) w6 JZ (.inl ⟨rfl,rfl⟩) (.inl rfl) h0 h1 h2 (fR _)
 simp[execOp,ho,hx,Instr.sliceAt,Instr.slice,run_underlying hu,hb]
theorem qZ{ρ:Operand→Value}{t e:TypeId}{x:Operand}{lo hi mx:Option Operand}(ho:o.op= .slice t x lo hi mx){τ:Ty}{ad:Option Addr}{len cap:Nat}{l h m:Int}(hu:P.underlying t=some (.slice e))(hle:kW P τ e)(hx:ρ x= .slice ad len cap)
  (w6:Bnd (lo.map ρ) 0 l) (JZ:Bnd (hi.map ρ) len h) (Nj:Bnd (mx.map ρ) cap m) (hm:(mx.map ρ).isNone=true∨(hi.map ρ).isSome=true) (h0:0≤l) (h1:l≤h) (h2:h≤m) (h3:m≤cap):
  (execOp ρ o).run P w= .ok (.value (.slice (if m.toNat=l.toNat then ad else ad.map (·.add (l.toNat*τ.size))) (h.toNat-l.toNat) (m.toNat-l.toNat))) w:=by
 have hb:=wE (P:=P) (w:=w) (s:=true) w6 JZ Nj hm h0 h1 h2 h3
 simp[execOp,ho,hx,Instr.sliceAt,Instr.slice,run_underlying hu,hb,dv hle]
theorem DU{x:Option Operand}(h:kA x=true)(a:Act): ∃k,x.map a.eval=some (.int k 0):=by
 unfold kA at h
 split at h
 ·rename_i k n
  have:n=0:=by simpa using h
  subst this
  exact⟨k,rfl⟩
 ·cases h
theorem Rd.cut{e:Ty}{ad:Option Addr}{len cap:Nat}{x:List e.den}(h:Rd w M (.slice e) [.slice ad len cap] x){l hh m:Int}(h0:0≤l)(h1:l≤hh)(h2:hh≤m)(hl:hh≤x.length):
  Rd w M (.slice e) [.slice (if m.toNat=l.toNat then ad else ad.map (·.add (l.toNat*e.size))) (hh.toNat-l.toNat) (m.toNat-l.toNat)] (List.drop l.toNat (List.take hh.toNat x)):=by
 simp only[Rd,fQ,fB]at h ⊢
 obtain⟨a',m4,hv,hc,hr⟩:=h
 cases hv
 have hlen:ℓ (List.drop l.toNat (List.take hh.toNat x))=hh.toNat-l.toNat:=by rw[eg,bZ];omega
 refine⟨_,_,by rw[hlen],by rw[hlen];omega,λi hi=> ?_⟩
 rw[hlen]at hi
 obtain⟨b,off,ha,hb,hm,cs,pE,kB⟩:=hr (l.toNat+i) ω
 rw[ah ω]
 refine⟨b,off+l.toNat*e.size,by rw[ha];simp[Addr.add_lit],hb,hm,cs,?_,?_⟩
 ·rw[show off+l.toNat*e.size+i*e.size=off+(l.toNat+i)*e.size from by rw[eG];omega];exact pE
 ·simp only[F5,F8,AP]at kB ⊢
  exact kB
theorem VR.emp{H:Nat→Option br}{v:Value}:VR w M H ν .emp v↔ ∃ad,v= .slice ad 0 0:=by simp[VR]
theorem Ym(hE:EnvTy P E)(hc:Core c σ a.tmps w M ν){t:TypeId}{x:Operand}{lo hi mx:Option Operand}(ho:o.op= .slice t x lo hi mx){K:g7 α}{τ:Ty}(ht:E.ty t=some τ)
  (h:sj τ (lo.isNone&&kA hi&&kA mx) (σ.ρ x) (lo.map σ.ρ) (hi.map σ.ρ) (mx.map σ.ρ) σ.H K=some r) (hn:fK c σ a o w M ν K r next):o.wp P a w next Q:=by
 have zq:=hE.ty t τ ht
 have hv:=hc.ev x
 have RV: ∀(e:Ty) (e':TypeId) (ad:Option Addr) (len cap:Nat),P.underlying t=some (.slice e')→kW P e e'→a.eval x= .slice ad len cap→(lo.isNone&&kA hi&&kA mx)=true→
   ∃ad',(execOp a.eval o).run P w= .ok (.value (.slice ad' 0 0)) w:=by
  intro e e' ad len cap hu hle hx hz
  simp only[bM]at hz
  obtain⟨⟨h1,h2⟩,h3⟩:=hz
  have h1:lo=none:=by simpa using h1
  subst h1
  obtain⟨k2,h2⟩:=DU h2 a
  obtain⟨k3,h3⟩:=DU h3 a
  have:=qZ (P:=P) (w:=w) ho hu hle hx (l:=0) (h:=0) (m:=0) (.inl ⟨rfl,rfl⟩) (.inr ⟨k2,h2⟩) (.inr ⟨k3,h3⟩) (.inr (by rw[h2];rfl)) ω ω ω ω
  exact⟨_,this⟩
 unfold sj at h
 split at h
 ·rename_i s hx
  obtain⟨hm,h⟩:=cB h
  obtain⟨l,h,w6⟩:=pX hc h
  obtain⟨hh,h,JZ⟩:=pX hc h
  obtain⟨hk,h⟩:=cB h
  rw[sb]at hk
  obtain⟨h0,h1,h2,h3⟩:=bt hk
  rw[hx]at hv
  exact a6 (Jl ho zq.str hv.str w6 JZ (by simpa using hm) h0 h1 h2) (hn _ [] [] _ _ _ _ h (.refl hc.mem) (.mkStr _))
 ·rename_i e hx
  obtain⟨e',hu,hle⟩:=zq.slice
  rw[hx]at hv
  obtain⟨ad,hv⟩:=VR.emp.1 hv
  cases hz:(lo.isNone&&kA hi&&kA mx)
  ·rw[hz]at h
   replace h:cond (mx.map σ.ρ).isNone (zm (lo.map σ.ρ) 0 λl=>zm (hi.map σ.ρ) 0 λh=>cond (jq l h 0 0) (K .emp [] []) none) none=some r:=h
   obtain⟨hm,h⟩:=cB h
   obtain⟨l,h,w6⟩:=pX hc h
   obtain⟨hh,h,JZ⟩:=pX hc h
   obtain⟨hk,hK⟩:=cB h
   rw[sb]at hk
   obtain⟨h0,h1,h2,h3⟩:=bt hk
   have jt:mx=none:=by simpa using hm
   subst jt
   have:=qZ (P:=P) (w:=w) ho hu hle hv w6 JZ (.inl ⟨rfl,rfl⟩) (.inl rfl) h0 h1 (m:=0) ω ω
   refine a6 this (hn _ [] [] _ _ _ _ hK (.refl hc.mem) (VR.emp.2 ?_))
   rw[show hh.toNat-l.toNat=0 from by omega,show(0:Int).toNat-l.toNat=0 from by omega]
   exact⟨_,rfl⟩
  ·rw[hz]at h
   obtain⟨ad',dF⟩:=RV e e' ad 0 0 hu hle hv hz
   exact a6 dF (hn _ [] [] _ _ _ _ h (.refl hc.mem) (VR.emp.2 ⟨_,rfl⟩))
 ·rename_i e kq
  obtain⟨e',hu,hle⟩:=zq.slice
  cases hz:(lo.isNone&&kA hi&&kA mx)
  ·rw[hz]at h
   obtain⟨y,rd,ups,M',h,gy,hV,_⟩:=kY (.refl _) hc.mem hv h
   replace h:cond ((mx.map σ.ρ).isNone||(hi.map σ.ρ).isSome) (zm (lo.map σ.ρ) 0 λl=>zm (hi.map σ.ρ) (ℓ y:Int) λh=>zm (mx.map σ.ρ) (ℓ y:Int) λm=>
    cond (jq l h m (ℓ y:Int)) (K (.val (.slice e) (List.drop l.toNat (List.take h.toNat y))) rd ups) none) none=some r:=h
   obtain⟨hm,h⟩:=cB h
   obtain⟨l,h,w6⟩:=pX hc h
   obtain⟨hh,h,JZ⟩:=pX hc h
   obtain⟨m,h,Nj⟩:=pX hc h
   obtain⟨hk,h⟩:=cB h
   rw[sb]at hk
   obtain⟨h0,h1,h2,h3⟩:=bt hk
   have hr:=V.slice.1 hV
   have eQ:=hr
   simp only[Rd,fQ,fB]at eQ
   obtain⟨ad,cap,hx,ake,_⟩:=eQ
   rw[hx]at hr
   have jt:(mx.map a.eval).isNone=true∨(hi.map a.eval).isSome=true:=by
    simp only[nV,Option.isNone_map,Option.isSome_map]at hm ⊢;exact hm
   have Yn: ∃m',Bnd (mx.map a.eval) cap m'∧hh≤m'∧m'≤cap:=by
    rcases Nj with⟨h9,_⟩|⟨k,h9⟩
    ·exact⟨cap,.inl ⟨h9,rfl⟩,ω,fR _⟩
    ·exact⟨m,.inr ⟨k,h9⟩,h2,ω⟩
   obtain⟨m',Yn,h4,h5⟩:=Yn
   have dF:=qZ (P:=P) (w:=w) ho hu hle hx w6 JZ Yn jt h0 h1 h4 h5
   refine a6 dF (hn _ _ _ _ _ M' _ h gy ?_)
   simp only[VR]
   exact V.slice.2 (hr.cut h0 h1 h4 ω)
  ·rw[hz]at h
   obtain⟨y,rd,h,hS⟩:=DM hc.mem hv h
   obtain⟨ad,cap,hx,_⟩:=hS
   obtain⟨ad',dF⟩:=RV e e' ad _ cap hu hle hx hz
   exact a6 dF (hn _ _ [] _ _ _ _ h (.refl hc.mem) (VR.emp.2 ⟨_,rfl⟩))
 ·cases h
theorem VE(hE:EnvTy P E)(hc:Core c σ a.tmps w M ν){t:TypeId}{x:Operand}{lo hi mx:Option Operand}(ho:o.op= .slice t x lo hi mx){K:g7 α}{τ:Ty}(ht:E.ty t=some τ)
  (h:xv E τ (lo.isNone&&kA hi&&kA mx) (σ.ρ x) (lo.map σ.ρ) (hi.map σ.ρ) (mx.map σ.ρ) σ.H K=some r) (hn:fK c σ a o w M ν K r next):o.wp P a w next Q:=by
 unfold xv at h
 split at h
 ·rename_i e id lo' hvw hx w6 JZ Nj
  have zq:=hE.ty t _ ht
  obtain⟨e',hu,hle⟩:=zq.slice
  have hv:=hc.ev x
  rw[hx]at hv
  simp only[VR]at hv
  obtain⟨h0,hv⟩:=hv
  have h:zm (lo.map σ.ρ) 0 (λi=>match σ.H id with
   |some (.own e' l)=>jr e' e (cond (jq i (ℓ l:Int) (ℓ l:Int) (ℓ l:Int)) (K (.sub id e i.toNat) [id] []) none)
   |_=>none)=some r:=by rw[w6];exact h
  obtain⟨i,h,hb⟩:=pX hc h
  split at h
  ·rename_i e2 l bg
   obtain⟨e1,h⟩:=dX h
   subst e1
   obtain⟨hk,h⟩:=cB h
   rw[sb]at hk
   obtain⟨h1,h2,_,_⟩:=bt hk
   obtain⟨ad,cap,hnu⟩:=ER.GG (hc.mem.jY id _ bg)
   have ake:l.length≤cap:=by
    have:=hc.mem.jY id _ bg
    simp only[ER]at this
    rcases this with⟨rfl,a,RU⟩|⟨b,cs,t,cp,RU,_,_,_,hl,_⟩
    ·simp
    ·rw[hnu]at RU;simp only[Value.slice.injEq]at RU;obtain⟨_,_,rfl⟩:=RU;exact hl
   have avs:hi=none:=by simpa using JZ
   have Yn:mx=none:=by simpa using Nj
   subst avs Yn
   have dF:=qZ (P:=P) (w:=w) ho hu hle (hv.trans hnu) (l:=i) (h:=(l.length:Int)) (m:=(cap:Int)) hb (.inl ⟨rfl,rfl⟩) (.inl ⟨rfl,rfl⟩) (.inl rfl) h1 h2 ω (fR _)
   refine a6 dF (hn _ _ [] _ _ _ _ h (.refl hc.mem) ?_)
   simp only[VR]
   exact⟨h0,ad,_,cap,hnu,by simp⟩
  ·cases h
 ·exact Ym hE hc ho ht h hn
end VM
end
section
namespace VM
open Go
variable{P:Program}{E:Env}{o:Oper}{a:Act}{w:World}{M:Nat→Prop}{ν:Nat→Value}{σ:St}{c:Ctx}{α:Type}{r:α}{next:Act→World→Prop}{Q:Exit→Act→World→Prop}
theorem tH{t ty e:TypeId}{i:TypeInfo}(ht:P.underlying t=some (.slice e))(hi:P.info? e=some i)(base:Option Addr)(n cap:Nat)(h:n≤cap)(a':Option Addr)(cp:Nat):
  (Builtin.append_ #[t,t] ty #[.slice base n cap,.slice a' 0 cp]).run P w= .ok (.slice base n cap) w:=by
 cases a'<;>cases base<;>simp[Builtin.append_,run_underlying ht,Go.sizeOf,typeInfo,hi,Builtin.lenOf,h,Builtin.firstCells,loadCells,loadCellsFrom,storeCells]
theorem N8{t ty e te:TypeId}{i:TypeInfo}(ht:P.underlying t=some (.slice e))(hi:P.info? e=some i){b n cap m cp:Nat}{a':Addr}{news:List Value}{cs:Array Value}
  (hg:w.heap[b]? =some (.cells cs te (0,0))) (hs:cs.size=cap*i.size) (hl:news.length=m*i.size) (hn: ∀j u,news[j]? =some u→w.cell? (a'.add j)=some u) (h1: ∀u∈news,u.oneCell'=true) (hr:n+m≤cap):
  (Builtin.append_ #[t,t] ty #[.slice (some ⟨b,0,none⟩) n cap,.slice (some a') m cp]).run P w= .ok (.slice (some ⟨b,0,none⟩) (n+m) cap) (w.setRow b (eM cs.toList (n*i.size) news).toArray):=by
 have hf:=run_firstCells_some (P:=P) w i.size m a' m cp news hl hn
 have hm:(n+m)*i.size≤cap*i.size:=kz _ hr
 rw[eG]at hm
 have vl:=run_storeCells_at (P:=P) b (n*i.size) te news 0 cs w hg ω h1
 simp only[mz]at vl
 simp[Builtin.append_,run_underlying ht,Go.sizeOf,typeInfo,hi,Builtin.lenOf,hr,hf,Addr.add_lit,vl,eM]
theorem iR{args:Array Operand}{t:TypeId}{x y:Operand}{v:Value}{w':World}(ho:o.op= .call {callee:= .builtin .append,args,argTypes:= #[t,t]})(ha:args.toList=[x,y])
  (h:(Builtin.append_ #[t,t] o.type #[a.eval x,a.eval y]).run P w= .ok v w'):(execOp a.eval o).run P w= .ok (.value v) w':=by
 obtain⟨cs,hr⟩:=n6 (P:=P) (ρ:=a.eval) ho (w:=w)
 rw[hr]
 have:args.map a.eval= #[a.eval x,a.eval y]:=by apply g8;simp[ha]
 rw[this]
 simp[builtin,h]
theorem GH{H:Nat→Option br}(hm:Mem c H w M ν){id:Nat}(bg:H id=none){t ty:TypeId}{e':TypeId}{e:Ty}(hu:P.underlying t=some (.slice e'))(hle:kW P e e')
  {xs ys:List e.den} {olds news:List Value} {base:Option Addr} {cap cp:Nat} {a':Addr} (Yo:base=none→xs=[]∧cap=0)
  (w6:olds.length=xs.length*e.size) (hro:pF w M e olds xs) (ho: ∀b,base=some b→ ∀j u,olds[j]? =some u→w.cell? (b.add j)=some u)
  (hln:news.length=ys.length*e.size) (hrn:pF w M e news ys) (hn: ∀j u,news[j]? =some u→w.cell? (a'.add j)=some u)
  (hg:cap<xs.length+ys.length) (hs:xs.length+ys.length<A2):
  ∃v w' M' ν',(Builtin.append_ #[t,t] ty #[.slice base xs.length cap,.slice (some a') ys.length cp]).run P w= .ok v w'∧Tr c H w M ν (cn H id (some (.own e (xs++ys)))) w' M' ν'∧ν' id=v:=by
 obtain⟨i,hi,qQ,hz,hby⟩:=hle.base
 have hzs:(ck e e.cC).cells.size=e.size:=by rw[←bk,fD,mD]
 have h63:xs.length+ys.length≤maxLen:=by simp only[A2,maxLen]at hs ⊢;omega
 have GI:(xs.length+ys.length)*i.bytes≤140737488355328:=by
  have:(xs.length+ys.length)*i.bytes≤68719476736*2048:=uD (by simp only[A2]at hs;omega) hby
  omega
 have dF: ∃m4 rest,(Builtin.append_ #[t,t] ty #[.slice base xs.length cap,.slice (some a') ys.length cp]).run P w= .ok (.slice (some ⟨w.heap.size,0,none⟩) (xs.length+ys.length) m4) (w.drew.alloc (.cells (olds++news++rest).toArray e'))∧
   xs.length+ys.length≤m4∧m4≤maxLen∧rest.length=(m4-(xs.length+ys.length))*e.size:=by
  refine⟨grownCap w (xs.length+ys.length) cap e',(Builtin.zeroCells (ck e e.cC).cells (grownCap w (xs.length+ys.length) cap e'-(xs.length+ys.length))).toList,?_,grownCap_ge _ _ _ _,grownCap_le_maxLen _ _ _ _ h63,?_⟩
  ·cases base with
   |none=>
    obtain⟨rfl,rfl⟩:=Yo rfl
    have ho0:olds=[]:=vo (by rw[w6];simp)
    subst ho0
    have:=run_append_nil (P:=P) w t ty e' i _ hu hi hz a' ys.length cp news (by rw[hln,qQ]) hn (by simpa using hg) (by simp only[A2]at hs;omega) (by simp at GI;omega)
    simp only[cj,gm,cM]
    rw[this]
    congr 2
    apply fj (λz=>Obj.cells z e' (0,0))
    apply g8;simp
   |some b=>
    have:=run_append_grow (P:=P) w t ty e' i _ hu hi hz b xs.length cap olds (by rw[w6,qQ]) (ho b rfl) a' ys.length cp news (by rw[hln,qQ]) hn hg (by simp only[A2]at hs;omega) (growslice_fits hg GI)
    rw[this]
    congr 2
    apply fj (λz=>Obj.cells z e' (0,0))
    apply g8;simp
  ·rw[bk,size_zeroCells,hzs]
 obtain⟨m4,rest,dF,DT,hc2,apf⟩:=dF
 have hlen:(xs++ys).length=xs.length+ys.length:=aS
 have hd:=Tr.drew hm
 have hon:(olds++news).length=(xs++ys).length*e.size:=by rw[aS,w6,hln,hlen,eG]
 have Sg:=Tr.row hd.mem bg e' (e:=e) (cs:=(olds++news++rest).toArray) (l:=xs++ys) (cap:=m4) (by rw[hlen];exact DT) hc2
  (by rw[jf,aS,hon,apf,hlen,←eG];congr 1;omega)
  (pF.more ((hro.append w6 hrn).cg hd.cg) (by rw[hon];exact aH _))
 refine⟨_,_,_,_,dF,hd.trans Sg,?_⟩
 rw[←hlen];simp[updν]
theorem VF(hE:EnvTy P E)(hc:Core c σ a.tmps w M ν){args:Array Operand}{ts:Array TypeId}{t t':TypeId}{x y:Operand}(ho:o.op= .call {callee:= .builtin .append,args,argTypes:=ts})(ha:args.toList=[x,y])(hts:ts.toList=[t,t']){K:g7 α}{e:Ty}
  (ht:E.ty t=some (.slice e)) {id:Nat} (h:cond (Nat.beq t t') (sf σ.H id (.own e []) (NQ id e (σ.ρ x) (σ.ρ y) σ.H K)) none=some r) (hn:fK c σ a o w M ν K r next):o.wp P a w next Q:=by
 obtain⟨htt,h1⟩:=cB h
 clear h
 have htt:=fy htt
 subst htt
 obtain⟨bg,h⟩:=mB h1
 clear h1
 have avv:ts= #[t,t]:=by apply g8;simpa using hts
 subst avv
 obtain⟨e',hu,hle⟩:=(hE.ty t _ ht).slice
 obtain⟨i,hi,qQ,hz,hby⟩:=hle.base
 have LA:=hc.ev x
 unfold NQ at h
 obtain⟨ys,rd,h,hS⟩:=DM hc.mem (hc.ev y) h
 have akn:(ys=[]∧ ∃a' cp,a.eval y= .slice a' 0 cp)∨(ys≠[]∧ ∃a' cp news,a.eval y= .slice (some a') ys.length cp∧news.length=ys.length*e.size∧(∀j u,news[j]? =some u→w.cell? (a'.add j)=some u)∧pF w M e news ys∧ ∀u∈news,u.oneCell'=true):=by
  by_cases hy:ys=[]
  ·left
   obtain⟨a',cp,hv,_⟩:=hS
   exact⟨hy,a',cp,by rw[hv,hy];rfl⟩
  ·right
   obtain⟨b,off,cp,news,hv,hl,pE,kB,h1⟩:=hS.cells hy
   exact⟨hy,⟨b,off,none⟩,cp,news,hv,hl,λj u hj=>by rw[Addr.add_lit];exact pE j u hj,kB,h1⟩
 split at h
 ·
  rename_i hx
  rw[hx]at LA
  obtain⟨ad,LA⟩:=VR.emp.1 LA
  obtain⟨T4,h⟩:=cB h
  rw[Gk]at T4
  have T4:=bt T4
  rcases akn with⟨rfl,a',cp,Bh⟩|⟨hy,a',cp,news,Bh,hl,pE,kB,h1⟩
  ·refine a6 (iR ho ha (by rw[LA,Bh];exact tH hu hi ad 0 0 (aH _) a' cp)) (hn _ _ _ _ _ _ _ h (Tr.nothing hc.mem bg e ad) ?_)
   simp only[VR]
   exact⟨by show cn _ id _ id≠none;rw[ay];simp,by simp[updν]⟩
  ·have N9:0<ys.length:=pO.2 hy
   obtain⟨v,w',M',ν',dF,gy,hv⟩:=GH (P:=P) (ty:=o.type) hc.mem bg hu hle (xs:=[]) (ys:=ys) (olds:=[]) (news:=news) (base:=ad) (cap:=0) (cp:=cp) (a':=a') (λ_=>⟨rfl,rfl⟩) (by simp) (λi hi=>absurd hi (by simp)) (λ_ _ j u hj=>by simp at hj)
    hl kB pE (by simpa using N9) (by simpa using T4)
   refine a6 (iR ho ha (by rw[LA,Bh];exact dF)) (hn _ _ _ _ _ _ _ h gy ?_)
   simp only[VR]
   exact⟨by show cn _ id _ id≠none;rw[ay];simp,hv.symm⟩
 ·
  rename_i j hx
  rw[hx]at LA
  simp only[VR]at LA
  obtain⟨_,LA⟩:=LA
  split at h
  ·rename_i e1 l hj
   obtain⟨e2,h⟩:=bx h
   cases e2
   obtain⟨T4,h⟩:=cB h
   rw[Gk]at T4
   have T4:l.length+ys.length<A2:=bt T4
   have kq:id≠j:=λe=>by rw[e,hj]at bg;cases bg
   have qz:cn σ.H j (some .gone) id=none:=by rw[az _ _ kq];exact bg
   have RW:=Tr.gone hc.mem j
   have mg:=hc.mem.jY j _ hj
   simp only[ER]at mg
   rcases mg with⟨rfl,ad,hjv⟩|⟨b,cs,te,cap,hjv,hg,hM,TW,hl,Fs,hs,hr⟩
   ·rw[hjv]at LA
    rcases akn with⟨rfl,a',cp,Bh⟩|⟨hy,a',cp,news,Bh,hl,pE,kB,h1⟩
    ·refine a6 (iR ho ha (by rw[LA,Bh];exact tH hu hi ad 0 0 (aH _) a' cp)) (hn _ _ _ _ _ _ _ h (RW.trans (Tr.nothing RW.mem qz e ad)) ?_)
     simp only[VR]
     exact⟨by show cn _ id _ id≠none;rw[ay];simp,by simp[updν]⟩
    ·have N9:0<ys.length:=pO.2 hy
     obtain⟨v,w',M',ν',dF,gy,hv⟩:=GH (P:=P) (ty:=o.type) RW.mem qz hu hle (xs:=[]) (ys:=ys) (olds:=[]) (news:=news) (base:=ad) (cap:=0) (cp:=cp) (a':=a') (λ_=>⟨rfl,rfl⟩) (by simp) (λi hi=>absurd hi (by simp)) (λ_ _ j u hj=>by simp at hj)
      hl kB pE (by simpa using N9) (by simpa using T4)
     refine a6 (iR ho ha (by rw[LA,Bh];exact dF)) (hn _ _ _ _ _ _ _ h (RW.trans gy) ?_)
     simp only[VR]
     exact⟨by show cn _ id _ id≠none;rw[ay];simp,hv.symm⟩
   ·rw[hjv]at LA
    have Ft:cs.toList.length=cap*e.size:=by rw[bk,hs]
    have I3:l.length*e.size≤cap*e.size:=kz _ hl
    rcases akn with⟨rfl,a',cp,Bh⟩|⟨hy,a',cp,news,Bh,hln,pE,kB,h1⟩
    ·refine a6 (iR ho ha (by rw[LA,Bh];exact tH hu hi _ _ cap hl a' cp)) (hn _ _ _ _ _ M (updν ν id (ν j)) h ?_ ?_)
     ·refine Tr.rename hc.mem hj bg (.inr rfl) ?_
      rw[cw]
      exact hc.mem.jY j _ hj
     ·simp only[VR]
      exact⟨by show cn _ id _ id≠none;rw[ay];simp,by simp[updν,hjv]⟩
    ·by_cases Bp:l.length+ys.length≤cap
     ·have hmul:(l.length+ys.length)*e.size≤cap*e.size:=kz _ Bp
      rw[eG]at hmul
      have dF:=N8 (P:=P) (ty:=o.type) hu hi (w:=w) (b:=b) (n:=l.length) (cap:=cap) (m:=ys.length) (cp:=cp) (a':=a') (news:=news) (cs:=cs) hg (by rw[hs,qQ]) (by rw[hln,qQ]) pE h1 Bp
      rw[qQ]at dF
      have ab6:eM cs.toList (l.length*e.size) news=(cs.toList.take (l.length*e.size)++news)++cs.toList.drop (l.length*e.size+news.length):=rfl
      have hold:pF w M e (cs.toList.take (l.length*e.size)) l:=pF.take hr (aH _)
      have htl:(cs.toList.take (l.length*e.size)).length=l.length*e.size:=by rw[bZ];omega
      have aiX:pF w M e (eM cs.toList (l.length*e.size) news) (l++ys):=by
       rw[ab6]
       refine pF.more (hold.append htl kB) ?_
       rw[aS,aS,htl,hln,eG];exact aH _
      have Oa:(eM cs.toList (l.length*e.size) news).length=cap*e.size:=by rw[eI ω];exact Ft
      have aci:Tr c σ.H w M ν (cn σ.H j (some (.own e l))) (w.setRow b (eM cs.toList (l.length*e.size) news).toArray) M ν:=by
       refine Tr.write (e':= .own e l) hc.mem hj trivial trivial (.refl _) (by rw[hjv];simp[fv];omega) hg λNh hk xG=> ?_
       simp only[ER]
       refine .inr ⟨b,_,te,cap,hjv,setRow_heap w b cs _ te _ hg,xG,TW,hl,Fs,by rw[jf];exact Oa,λk Bi=> ?_⟩
       have:=(aiX k (by rw[aS];omega)).cg hk
       rw[AB Bi]at this
       exact this
      rw[Cw hj]at aci
      have xF:Tr c σ.H (w.setRow b (eM cs.toList (l.length*e.size) news).toArray) M ν (cn (cn σ.H j (some .gone)) id (some (.own e (l++ys)))) (w.setRow b (eM cs.toList (l.length*e.size) news).toArray) M (updν ν id (.slice (some ⟨b,0,none⟩) (l++ys).length cap)):=by
       refine Tr.rename aci.mem hj bg (.inr (by rw[hjv];simp[fv])) ?_
       simp only[ER]
       refine .inr ⟨b,_,te,cap,rfl,setRow_heap w b cs _ te _ hg,hM,TW,by rw[aS];exact Bp,Fs,by rw[jf];exact Oa,(aiX.cg aci.cg)⟩
      refine a6 (iR ho ha (by rw[LA,Bh];exact dF)) (hn _ _ _ _ _ _ _ h (aci.trans xF) ?_)
      simp only[VR]
      exact⟨by show cn _ id _ id≠none;rw[ay];simp,by simp[updν]⟩
     ·obtain⟨v,w',M',ν',dF,gy,hv⟩:=GH (P:=P) (ty:=o.type) RW.mem qz hu hle (xs:=l) (ys:=ys) (olds:=cs.toList.take (l.length*e.size)) (news:=news) (base:=some ⟨b,0,none⟩) (cap:=cap) (cp:=cp) (a':=a') (λh=>by cases h)
       (by rw[bZ];omega) (pF.take hr (aH _)) (λb' eX k u hk=>by
        cases eX
        rw[Addr.add_lit,cell_of hg]
        rw[mS]at hk
        split at hk
        ·rw[←iz];simpa using hk
        ·cases hk)
       hln kB pE ω T4
      refine a6 (iR ho ha (by rw[LA,Bh];exact dF)) (hn _ _ _ _ _ _ _ h (RW.trans gy) ?_)
      simp only[VR]
      exact⟨by show cn _ id _ id≠none;rw[ay];simp,hv.symm⟩
  ·cases h
 ·cases h
theorem pF.over{e:Ty}{cs zs:List Value}{l1 l2:List e.den}{n:Nat}(h1:pF w M e cs l1)(h2:pF w M e zs l2)(hn:n≤l1.length)(hc:l1.length*e.size≤cs.length)(hz:zs.length=l2.length*e.size)(hs:n*e.size+zs.length≤cs.length):
  pF w M e (eM cs (n*e.size) zs) (List.take n l1++l2):=by
 intro i hi
 rw[aS,bZ,ik hn]at hi
 by_cases eU:i<n
 ·have:=eC (s:=e.size) eU
  rw[Fp (.inl this) hs,AB (by rw[bZ];omega),AP]
  exact h1 i ω
 ·have h3:=h2 (i-n) ω
  have T6:i-n<l2.length:=ω
  have h4:=eC (s:=e.size) T6
  have h5:i*e.size=n*e.size+(i-n)*e.size:=by rw[←eG];congr 1;omega
  have h6:((eM cs (n*e.size) zs).drop (i*e.size)).take e.size=(zs.drop ((i-n)*e.size)).take e.size:=by
   unfold eM
   have hl:(cs.take (n*e.size)).length=n*e.size:=by rw[bZ];omega
   rw[h5,bE,←iB,mv hl,w9 ω,yH (by rw[eg];omega)]
  rw[h6,FW (by rw[bZ];omega)]
  simp only[bZ,ik hn]
  exact h3
theorem Bq{args:Array Operand}{t:TypeId}{x:Operand}{v:Value}{w':World}(ho:o.op= .call {callee:= .builtin .clear,args,argTypes:= #[t]})(ha:args.toList=[x])
  (h:(Builtin.clear_ #[t] o.type #[a.eval x]).run P w= .ok v w'):(execOp a.eval o).run P w= .ok (.value v) w':=by
 obtain⟨cs,hr⟩:=n6 (P:=P) (ρ:=a.eval) ho (w:=w)
 rw[hr]
 have:args.map a.eval= #[a.eval x]:=by apply g8;simp[ha]
 rw[this]
 simp[builtin,h]
theorem Yp(hE:EnvTy P E)(hc:Core c σ a.tmps w M ν){args:Array Operand}{ts:Array TypeId}{t:TypeId}{x:Operand}(ho:o.op= .call {callee:= .builtin .clear,args,argTypes:=ts})(ha:args.toList=[x])(hts:ts.toList=[t]){K:g7 α}{e:Ty}
  (ht:E.ty t=some (.slice e)) (h:zP e (σ.ρ x) σ.H K=some r) (hn:fK c σ a o w M ν K r next):o.wp P a w next Q:=by
 have hts:ts= #[t]:=by apply g8;simp[hts]
 subst hts
 have hv:=hc.ev x
 unfold zP at h
 split at h
 ·rename_i id e1 lo hx
  obtain⟨e2,h0⟩:=dX h
  clear h
  subst e2
  rw[hx]at hv
  simp only[VR]at hv
  obtain⟨aCG,ad,n,cap,hnu,hv⟩:=hv
  split at h0
  ·rename_i e3 l bg
   obtain⟨e4,h⟩:=bx h0
   clear h0
   cases e4
   obtain⟨e',hu,hle⟩:=(hE.ty t _ ht).slice
   obtain⟨i,hi,hs,hz,_⟩:=hle.base
   have mg:=hc.mem.jY id _ bg
   simp only[ER]at mg
   rcases nW lo l.length with eU|RX
   ·rcases mg with⟨rfl,_⟩|⟨b,cs,te,m4,hb,hg,hM,TW,hl,Fs,qQ,hr⟩
    ·simp at eU
    ·rw[hnu]at hb
     simp only[Value.slice.injEq]at hb
     obtain⟨rfl,rfl,rfl⟩:=hb
     rw[ah ω]at hv
     have hzs:(ck e1 e1.cC).cells.size=e1.size:=by rw[←bk,fD,mD]
     have hzc:Builtin.zeroCells (ck e1 e1.cC).cells (l.length-lo)=madeCells (ck e1 e1.cC).cells ((l.length-lo)*e1.size):=by
      unfold Builtin.zeroCells madeCells;rw[hzs]
     have hzl:(madeCells (ck e1 e1.cC).cells ((l.length-lo)*e1.size)).toList.length=(l.length-lo)*e1.size:=by rw[bk,size_madeCells]
     have Cx: ∀u∈(madeCells (ck e1 e1.cC).cells ((l.length-lo)*e1.size)).toList,u.oneCell'=true:=by
      intro u hu
      have hm:u∈(ck e1 e1.cC).cells.toList:=by
       simp only[madeCells,Array.toList_map,cV]at hu
       obtain⟨j,hj,rfl⟩:=hu
       rw[Array.mem_toList_iff,Array.mem_range]at hj
       have h0:0<e1.size:=by
        rcases Nat.eq_zero_or_pos e1.size with h0|h0
        ·rw[h0]at hj;simp at hj
        ·exact h0
       have Bd:j%(ck e1 e1.cC).cells.size<(ck e1 e1.cC).cells.size:=Nat.mod_lt _ ω
       rw[getElem!_pos (ck e1 e1.cC).cells _ Bd]
       exact Array.getElem_mem_toList Bd
      rw[fD]at hm
      exact(Rd.zero w M e1).lJ u hm
     have GI:lo*e1.size+(l.length-lo)*e1.size≤cs.size:=by
      rw[qQ,←eG]
      exact kz _ ω
     have vl:=run_storeCells_at (P:=P) b (lo*e1.size) te (madeCells (ck e1 e1.cC).cells ((l.length-lo)*e1.size)).toList 0 cs w hg (by rw[hzl];omega) Cx
     simp only[mz]at vl
     obtain⟨m,hm⟩: ∃m,l.length-lo=m+1:=⟨l.length-lo-1,ω⟩
     have dF:(Builtin.clear_ #[t] o.type #[a.eval x]).run P w= .ok (.tuple #[]) (w.setRow b (eM cs.toList (lo*e1.size) (madeCells (ck e1 e1.cC).cells ((l.length-lo)*e1.size)).toList).toArray):=by
      rw[hv]
      rw[hm]at vl hzc ⊢
      simp[Builtin.clear_,run_underlying hu,zeroValue,typeInfo,hi,hz,Addr.add_lit,hzc,vl,eM]
     have gy:=Tr.write (e':= .own e1 (List.take lo l++List.replicate (ℓ l-lo) e1.zero)) (new:=(eM cs.toList (lo*e1.size) (madeCells (ck e1 e1.cC).cells ((l.length-lo)*e1.size)).toList).toArray) hc.mem bg trivial trivial ⟨rfl,by simp;omega⟩ (by rw[hnu];simp[fv];omega) hg (λNh hk xG=>by
      simp only[ER]
      refine .inr ⟨b,_,te,cap,?_,setRow_heap w b cs _ te _ hg,xG,TW,by simp;omega,Fs,?_,?_⟩
      ·rw[hnu];simp;omega
      ·rw[jf,eI (by rw[hzl,bk];exact GI),bk,qQ]
      ·have h1:pF w M e1 cs.toList l:=hr
       have h2:=pF.made w M e1 (n:=(l.length-lo)*e1.size) (l:=l.length-lo) (aH _)
       have h3:=pF.over h1 h2 (n:=lo) ω (cv (kz _ hl) (Nat.le_of_eq (by rw[bk,qQ]))) (by rw[hzl,c4]) (by rw[hzl,bk];exact GI)
       exact h3.cg hk)
     exact a6 (Bq ho ha dF) (hn _ _ _ _ _ _ _ h gy (by simp[VR]))
   ·
    have IZ:List.take lo l++List.replicate (ℓ l-lo) e1.zero=l:=by
     rw[iy RX,show l.length-lo=0 from by omega];simp
    have hn0:n=l.length:=by
     obtain⟨ad',m4,hh⟩:=ER.GG (hc.mem.jY id _ bg)
     rw[hnu]at hh;simp only[Value.slice.injEq]at hh;exact hh.2.1
    have dF:(Builtin.clear_ #[t] o.type #[a.eval x]).run P w= .ok (.tuple #[]) w:=by
     rw[hv,show n-lo=0 from by omega]
     cases(if cap=lo then ad else ad.map (·.add (lo*e1.size)))<;>simp[Builtin.clear_,run_underlying hu]
    have hH:cn σ.H id (some (.own e1 l))=σ.H:=by
     funext j
     by_cases hj:j=id
     ·subst hj;rw[ay,bg]
     ·rw[az _ _ hj]
    refine a6 (Bq ho ha dF) (hn _ _ _ _ _ M ν h ?_ (by simp[VR]))
    show Tr c σ.H w M ν (cn σ.H id (some (.own e1 (List.take lo l++List.replicate (ℓ l-lo) e1.zero)))) w M ν
    rw[IZ,hH]
    exact .refl hc.mem
  ·cases h0
 ·cases h
end VM
end
