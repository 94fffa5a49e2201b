/- A part of the proof of BookDrawn of layer 18: a machine that reads a function of the program as an equation between values. -/
import Derived.Test.YtecmobijochjkaaGreatVm2
import Derived.Great.FillDense
set_option linter.all false
open List renaming length→ℓ
section
namespace VM
open Go
variable{P:Program}{E:Env}{o:Oper}{a:Act}{w:World}{M:Nat→Prop}{ν:Nat→Value}{σ:St}{c:Ctx}{α:Type}{r:α}{next:Act→World→Prop}{Q:Exit→Act→World→Prop}
theorem VF{b:BinOp}{k k':IntKind}{x y:Int}{t:TypeId}{K:bE→Option α}(h:shK b k x y K=some r):
  ∃z,K (.val (.int k) z)=some r∧(binOp b t (.int k x) (.int k' y)).run P w= .ok (.int k z) w:=by
 unfold shK at h
 split at h
 ·obtain⟨h0,h⟩:=nD h
  rw[qH]at h0
  have h0: ¬y<0:=by simpa using h0
  refine⟨_,h,?_⟩
  rw[Gt,Ye]
  simp[binOp,Op.shift,h0]
 ·obtain⟨h0,h⟩:=nD h
  rw[qH]at h0
  have h0: ¬y<0:=by simpa using h0
  refine⟨_,h,?_⟩
  rw[Sg]
  simp[binOp,Op.shift,h0]
 ·cases h
theorem LH{b:BinOp}{k:IntKind}{x y:Int}{t:TypeId}{K:bE→Option α}(h:vF b k x y K=some r):
  ∃v u,K v=some r∧(binOp b t (.int k x) (.int k y)).run P w= .ok u w∧ ∀H,VR w M H ν v u:=by
 unfold vF at h
 split at h
 ·exact⟨_,_,h,by simp[binOp,Op.intArith,Gt],λH=> .mkInt _ _⟩
 ·exact⟨_,_,h,by simp[binOp,Op.intArith,Gt],λH=> .mkInt _ _⟩
 ·exact⟨_,_,h,by simp[binOp,Op.intArith,Gt],λH=> .mkInt _ _⟩
 ·obtain⟨h0,h⟩:=nD h
  rw[jP]at h0
  have h0: ¬y=0:=by simpa using h0
  exact⟨_,_,h,by simp[binOp,Op.intDiv,Gt,aka,h0],λH=> .mkInt _ _⟩
 ·obtain⟨h0,h⟩:=nD h
  rw[jP]at h0
  have h0: ¬y=0:=by simpa using h0
  exact⟨_,_,h,by simp[binOp,Op.intDiv,akb,h0],λH=> .mkInt _ _⟩
 ·exact⟨_,_,h,by simp[binOp,Op.intBits,vD],λH=> .mkInt _ _⟩
 ·exact⟨_,_,h,by simp[binOp,Op.intBits,vD],λH=> .mkInt _ _⟩
 ·exact⟨_,_,h,by simp[binOp,Op.intBits,vD],λH=> .mkInt _ _⟩
 ·exact⟨_,_,h,by simp[binOp,Op.intBits,vD],λH=> .mkInt _ _⟩
 ·exact⟨_,.bool (decide (x=y)),h,by simp[binOp,Op.intCmp];rfl,λH=>by rw[jP];exact .vI _⟩
 ·exact⟨_,.bool (!decide (x=y)),h,by simp[binOp,Op.intCmp];rfl,λH=>by rw[jP];exact .vI _⟩
 ·exact⟨_,_,h,by simp[binOp,Op.intCmp,qH],λH=> .vI _⟩
 ·exact⟨_,_,h,by simp[binOp,Op.intCmp,m8],λH=> .vI _⟩
 ·exact⟨_,_,h,by simp[binOp,Op.intCmp,qH],λH=> .vI _⟩
 ·exact⟨_,_,h,by simp[binOp,Op.intCmp,m8],λH=> .vI _⟩
 ·cases h
theorem VG{t:Option Ty}{op:BinOp}{τ:Ty}{x:τ.den}{υ:Ty}{y:υ.den}{K:bE→Option α}(h:Gw t op τ x υ y K=some r):
  (∃(k k':IntKind) (m n:Int),bE.val τ x= .val (.int k) m∧bE.val υ y= .val (.int k') n∧(cond (ab8 op) (shK op k m n K) (if k=k' then vF op k m n K else none))=some r)∨
  (∃z:τ.den,bE.val υ y= .val τ z∧t=some τ∧τ.comparable=true∧((op= .eql∧K (.val .bool (pb τ x z))=some r)∨(op= .neq∧K (.val .bool (!pb τ x z))=some r))):=by
 unfold Gw at h
 split at h
 ·exact .inl ⟨_,_,_,_,rfl,rfl,h⟩
 ·right
  split at h
  ·cases h
  ·obtain⟨e,h1⟩:=dW h
   clear h
   subst e
   obtain⟨hc,h⟩:=cD h1
   clear h1
   split at h
   ·obtain⟨e,h1⟩:=bz h
    subst e
    exact⟨_,rfl,rfl,hc,.inl ⟨rfl,h1⟩⟩
   ·obtain⟨e,h1⟩:=bz h
    subst e
    exact⟨_,rfl,rfl,hc,.inr ⟨rfl,h1⟩⟩
   ·cases h
theorem DV{t:TypeId}(hu:P.underlying t=some .bool)(x y:Bool)(w:World):(Op.equal t (.bool x) (.bool y)).run P w= .ok (x==y) w:=by
 unfold Op.equal
 obtain⟨n,hn⟩: ∃n,Op.maxDepth=n+1:=⟨9999,rfl⟩
 rw[hn]
 simp[Op.equalIn,run_underlying hu]
theorem run_eql_bool{t:TypeId}(hu:P.underlying t=some .bool)(x y:Bool):(binOp .eql t (.bool x) (.bool y)).run P w= .ok (.bool (x==y)) w:=by
 simp[binOp,DV hu]
theorem run_neq_bool{t:TypeId}(hu:P.underlying t=some .bool)(x y:Bool):(binOp .neq t (.bool x) (.bool y)).run P w= .ok (.bool (!(x==y))) w:=by
 simp[binOp,DV hu]
theorem apw(x y:ByteArray):(x.toList==y.toList)=decide (x.toList=y.toList):=by
 rw[p5];simp
theorem Og{t:TypeId}(x y:ByteArray):(binOp .eql t (.string x) (.string y)).run P w= .ok (.bool (decide (x.toList=y.toList))) w:=by
 simp[binOp,Op.stringOp,apw]
theorem Oh{t:TypeId}(x y:ByteArray):(binOp .neq t (.string x) (.string y)).run P w= .ok (.bool (!decide (x.toList=y.toList))) w:=by
 simp[binOp,Op.stringOp,apw]
theorem Yp(hE:EnvTy P E)(hc:Core c σ a.tmps w M ν){b:BinOp}{t t':TypeId}{x y:Operand}(ho:o.op= .binOp b t x y t'){K:g7 α}
  (h:N1 (σ.ρ x) (fun τ x=>N1 (σ.ρ y) fun υ y=>Gw (E.ty t) b τ x υ y λv=>K v [] [])=some r) (hn:fM c σ a o w M ν K r next):o.wp P a w next Q:=by
 have hx:=hc.ev x
 have hy:=hc.ev y
 unfold N1 at h
 split at h
 ·rename_i τ x' hxe
  split at h
  ·rename_i υ y' hye
   rw[hxe]at hx;rw[hye]at hy
   rcases VG h with⟨k,k',m,n,e1,e2,h1⟩|⟨z,e2,ht,FC,h1⟩
   ·rw[e1]at hx;rw[e2]at hy
    have hx:=hx.int
    have hy:=hy.int
    cases hs:ab8 b
    ·rw[hs]at h1
     replace h1:(if k=k' then vF b k m n (λv=>K v [] [])else none)=some r:=h1
     split at h1
     ·rename_i hk;subst hk
      obtain⟨v,u,hK,dG,hVR⟩:=LH (P:=P) (w:=w) (M:=M) (ν:=ν) (t:=t) h1
      exact aZ (rn ho (by rw[hx,hy];exact qK w) (by rw[hx,hy];exact dG)) (hn _ [] [] _ _ _ _ hK (.refl hc.mem) (hVR _))
     ·cases h1
    ·rw[hs]at h1
     replace h1:shK b k m n (λv=>K v [] [])=some r:=h1
     obtain⟨z,hK,dG⟩:=VF (P:=P) (w:=w) (k':=k') (t:=t) h1
     exact aZ (rn ho (by rw[hx,hy];exact qK w) (by rw[hx,hy];exact dG)) (hn _ [] [] _ _ _ _ hK (.refl hc.mem) (.mkInt _ _))
   ·rw[e2]at hy
    have key:(eqGuard b t x y (a.eval x) (a.eval y)).run P w= .ok () w∧(binOp .eql t (a.eval x) (a.eval y)).run P w= .ok (.bool (pb τ x' z)) w∧(binOp .neq t (a.eval x) (a.eval y)).run P w= .ok (.bool (!pb τ x' z)) w:=by
     by_cases GC:τ.isAgg=true
     ·simp only[VR]at hx hy
      exact hE.eq t τ ht FC GC w M _ _ _ _ b x y hx hy
     ·have hl:=hE.ty t τ ht
      cases τ with
      |int k=>
       rw[hx.int,hy.int]
       refine⟨qK w,?_,?_⟩
       ·simp[binOp,Op.intCmp,pb,jP];rfl
       ·simp[binOp,Op.intCmp,pb,jP];rfl
      |bool=>rw[hx.bool,hy.bool];exact⟨CH w,run_eql_bool hl.bool _ _,run_neq_bool hl.bool _ _⟩
      |str=>rw[hx.str,hy.str];exact⟨ES w,by rw[Og];simp[pb,Gv],by rw[Oh];simp[pb,Gv]⟩
      |slice e=>simp[Ty.comparable]at FC
      |unit=>simp[Ty.isAgg]at GC
      |pair _ _=>simp[Ty.isAgg]at GC
      |arr _ _=>simp[Ty.isAgg]at GC
    obtain⟨hg,h2,h3⟩:=key
    rcases h1 with⟨rfl,hK⟩|⟨rfl,hK⟩
    ·exact aZ (rn ho hg h2) (hn _ [] [] _ _ _ _ hK (.refl hc.mem) (.vI _))
    ·exact aZ (rn ho hg h3) (hn _ [] [] _ _ _ _ hK (.refl hc.mem) (.vI _))
  ·cases h
 ·cases h
theorem aco(hc:Core c σ a.tmps w M ν){u:UnOp}{t:TypeId}{x:Operand}(ho:o.op= .unOp u t x){K:g7 α}
  (h:Vs u (σ.ρ x) (λv=>K v [] [])=some r) (hn:fM c σ a o w M ν K r next):o.wp P a w next Q:=by
 have hx:=hc.ev x
 unfold Vs at h
 split at h
 ·rename_i k n hxe
  rw[hxe]at hx
  refine aZ (xM ho (v:= .int k (k.wrap (0-n))) ?_) (hn _ [] [] _ _ _ _ h (.refl hc.mem) (by rw[Gt];exact .mkInt _ _))
  rw[hx.int];simp[Op.unary,Op.intArith]
 ·rename_i k n hxe
  rw[hxe]at hx
  refine aZ (xM ho (v:= .int k (ss .xor k (if k.signed then-1 else k.max) n)) ?_) (hn _ [] [] _ _ _ _ h (.refl hc.mem) (.mkInt _ _))
  rw[hx.int,vD];simp[Op.unary,Op.intBits]
 ·rename_i b hxe
  rw[hxe]at hx
  refine aZ (xM ho (v:= .bool (!b)) ?_) (hn _ [] [] _ _ _ _ h (.refl hc.mem) (.vI _))
  rw[hx.bool];simp[Op.unary]
 ·cases h
end VM
end
section
namespace VM
open Go
variable{P:Program}{E:Env}{o:Oper}{a:Act}{w:World}{M:Nat→Prop}{ν:Nat→Value}{σ:St}{c:Ctx}{α:Type}{r:α}{next:Act→World→Prop}{Q:Exit→Act→World→Prop}
theorem pe{args:Array Operand}{ts:Array TypeId}{t:TypeId}{x:Operand}{n:Nat}(ho:o.op= .call {callee:= .builtin .len,args,argTypes:=ts})(ha:args.toList=[x])(_ht:ts.toList.head?=some t)
  (hl: ∀ty,(Builtin.len_ ts ty #[a.eval x]).run P w= .ok (goInt n) w):(execOp a.eval o).run P w= .ok (.value (.int .i64 n)) w:=by
 obtain⟨cs,hr⟩:=oh (P:=P) (ρ:=a.eval) ho (w:=w)
 rw[hr]
 have:args.map a.eval= #[a.eval x]:=by apply g8;simp[ha]
 rw[this]
 simp[builtin,hl,goInt]
theorem acp{ts:Array TypeId}{t ty:TypeId}(ht:ts[0]? =some t)(hu:P.underlying t=some .string)(s:ByteArray):(Builtin.len_ ts ty #[.string s]).run P w= .ok (goInt s.size) w:=by
 simp[Builtin.len_,ht,run_underlying hu]
theorem acq{ts:Array TypeId}{t ty e:TypeId}{n:Nat}(ht:ts[0]? =some t)(hu:P.underlying t=some (.array n e))(v:Value):(Builtin.len_ ts ty #[v]).run P w= .ok (goInt n) w:=by
 simp[Builtin.len_,ht,run_underlying hu]
theorem y4{ts:Array TypeId}{t ty e:TypeId}(ht:ts[0]? =some t)(hu:P.underlying t=some (.slice e))(ad:Option Addr)(n cp:Nat):(Builtin.len_ ts ty #[.slice ad n cp]).run P w= .ok (goInt n) w:=by
 simp[Builtin.len_,ht,run_underlying hu]
theorem ER.GQ{e:Ty}{l:List e.den}{v:Value}(h:ER w M v (.own e l)): ∃ad cp,v= .slice ad l.length cp:=by
 simp only[ER]at h
 rcases h with⟨rfl,a,hv⟩|⟨b,cs,t,cap,hv,_⟩
 ·exact⟨a,0,hv⟩
 ·exact⟨_,cap,hv⟩
theorem ER.Yq{e:Ty}{l:List e.den}{v:Value}(h:ER w M v (.pM e l)): ∃ad cp,v= .slice ad l.length cp:=by
 simp only[ER]at h
 have h:=h.1
 simp only[Rd,fT,fD]at h
 obtain⟨a,cap,hv,_⟩:=h
 exact⟨a,cap,hv⟩
theorem akt(hE:EnvTy P E)(hc:Core c σ a.tmps w M ν){args:Array Operand}{ts:Array TypeId}{x:Operand}(ho:o.op= .call {callee:= .builtin .len,args,argTypes:=ts})(ha:args.toList=[x]){K:g7 α}{τ:Ty}
  (ht:(ts.toList.head?).bind E.ty=some τ) (h:N2 τ (σ.ρ x) σ.H K=some r) (hn:fM c σ a o w M ν K r next):o.wp P a w next Q:=by
 obtain⟨t,xe,X0⟩:=uH.1 ht
 have ht3:ts[0]? =some t:=by rw[←xe,←iH,List.head?_eq_getElem?]
 have hl:=hE.ty t τ X0
 have hv:=hc.ev x
 unfold N2 at h
 split at h
 ·rename_i e e' l hx
  obtain⟨_,hu,_⟩:=hl.slice
  rw[hx]at hv
  simp only[VR]at hv
  have hv:=V.slice.1 hv
  simp only[Rd,fT,fD]at hv
  obtain⟨ad,cap,hv,_⟩:=hv
  refine aZ (pe ho ha xe (n:=ℓ l) λty=>by rw[hv];exact y4 ht3 hu _ _ _) (hn _ [] [] _ _ _ _ h (.refl hc.mem) (.mkInt _ _))
 ·rename_i n e n' e' l hx
  obtain⟨_,hu,_⟩:=hl.arr
  refine aZ (pe ho ha xe (n:=n) λty=>acq ht3 hu _) (hn _ [] [] _ _ _ _ h (.refl hc.mem) (.mkInt _ _))
 ·rename_i s hx
  rw[hx]at hv
  refine aZ (pe ho ha xe (n:=ByteArray.size s) λty=>by rw[hv.str];exact acp ht3 hl.str _) (hn _ [] [] _ _ _ _ h (.refl hc.mem) (.mkInt _ _))
 ·rename_i e hx
  obtain⟨_,hu,_⟩:=hl.slice
  rw[hx]at hv
  simp only[VR]at hv
  obtain⟨ad,hv⟩:=hv
  refine aZ (pe ho ha xe (n:=0) λty=>by rw[hv];exact y4 ht3 hu _ _ _) (hn _ [] [] _ _ _ _ h (.refl hc.mem) (.mkInt _ _))
 ·rename_i e id hx
  obtain⟨_,hu,_⟩:=hl.slice
  rw[hx]at hv
  simp only[VR]at hv
  split at h
  ·rename_i e' l bk
   obtain⟨ad,cap,hh⟩:=(hc.mem.ke id _ bk).GQ
   refine aZ (pe ho ha xe (n:=l.length) λty=>by rw[hv.2,hh];exact y4 ht3 hu _ _ _) (hn _ [id] [] _ _ _ _ h (.refl hc.mem) (.mkInt _ _))
  ·rename_i e' l bk
   obtain⟨ad,cap,hh⟩:=(hc.mem.ke id _ bk).Yq
   refine aZ (pe ho ha xe (n:=l.length) λty=>by rw[hv.2,hh];exact y4 ht3 hu _ _ _) (hn _ [id] [] _ _ _ _ h (.refl hc.mem) (.mkInt _ _))
  ·cases h
 ·cases h
theorem Oi{H:Nat→Option br}(up:Bool): ∀(xs:List bE) (x:bE) (v:Value) (vs:List Value) (K:bE→Option α),VR w M H ν x v→jQ w M H ν xs vs→mmK up x xs K=some r→
  ∃x' v',K x'=some r∧(vs.foldlM (if up then Builtin.max2 else Builtin.min2) v).run P w= .ok v' w∧VR w M H ν x' v'
 |[],x,v,[],K,hx,_,h=>⟨x,v,h,by simp,hx⟩
 |[],_,_,_::_,_,_,hs,_=>by simp[jQ]at hs
 |_::_,_,_,[],_,_,hs,_=>by simp[jQ]at hs
 |y::xs,x,v,u::vs,K,hx,hs,h=>by
  simp only[jQ]at hs
  obtain⟨hy,hs⟩:=hs
  unfold mmK at h
  obtain⟨k,m,e1,h1⟩:=oi h
  obtain⟨k',n,e2,h2⟩:=oi h1
  clear h h1
  split at h2
  ·rename_i hk
   subst hk
   rw[e1]at hx;rw[e2]at hy
   have hx:=hx.int
   have hy:=hy.int
   obtain⟨x',v',hK,dG,hV⟩:=Oi up xs _ (.int k (cond up (mx m n) (mn m n))) vs K (.mkInt _ _) hs h2
   refine⟨x',v',hK,?_,hV⟩
   rw[List.foldlM_cons,Sem.run_bind]
   have:((if up then Builtin.max2 else Builtin.min2) v u).run P w= .ok (.int k (cond up (mx m n) (mn m n))) w:=by
    rw[hx,hy]
    cases up
    ·simp[Builtin.min2,Yf]
    ·simp[Builtin.max2,aiW]
   rw[this]
   exact dG
  ·cases h2
theorem ai2(hc:Core c σ a.tmps w M ν)(up:Bool){args:Array Operand}{ts:Array TypeId}{x:Operand}{xs:List Operand}(ho:o.op= .call {callee:= .builtin (if up then .max else .min),args,argTypes:=ts})(ha:args.toList=x::xs){K:g7 α}
  (h:mmK up (σ.ρ x) (xs.map σ.ρ) (λv=>K v [] [])=some r) (hn:fM c σ a o w M ν K r next):o.wp P a w next Q:=by
 obtain⟨x',v',hK,dG,hV⟩:=Oi (P:=P) up (xs.map σ.ρ) (σ.ρ x) (a.eval x) (xs.map a.eval) _ (hc.ev x) (hc.evs xs) h
 refine aZ ?_ (hn _ [] [] _ _ _ _ hK (.refl hc.mem) hV)
 obtain⟨cs,hr⟩:=oh (P:=P) (ρ:=a.eval) ho (w:=w)
 rw[hr]
 have hm:(args.map a.eval).toList=a.eval x::xs.map a.eval:=by simp[ha]
 cases up
 ·simp only[jO,fE,builtin,Builtin.min_,hm,Sem.run_bind]at dG ⊢
  rw[dG];simp
 ·simp only[g9,builtin,Builtin.max_,hm,Sem.run_bind]at dG ⊢
  rw[dG];simp
theorem Jw{ρ:Operand→Value}{t:TypeId}{x i:Operand}(ho:o.op= .index t x i){k:IntKind}{n:Int}{s:ByteArray}
  (hu:P.underlying t=some .string) (hx:ρ x= .string s) (hi:ρ i= .int k n) (h0:0≤n) (h1:n<(s.size:Int)):
  (execOp ρ o).run P w= .ok (.value (.int .u8 ((s.data.getD n.toNat 0).toNat:Int))) w:=by
 have eV:n.toNat<s.size:=ω
 have hs:s[n.toNat]? =some (s[n.toNat]'eV):=by simp[eV]
 have he:s[n.toNat]'eV=s.data.getD n.toNat 0:=by
  have xR:n.toNat<s.data.size:=eV
  rw[Array.getD,dif_pos xR];rfl
 simp[execOp,ho,hx,hi,Instr.index,asIntOf,run_underlying hu,h0,hs,he]
theorem Yr(hE:EnvTy P E)(hc:Core c σ a.tmps w M ν){t:TypeId}{x i:Operand}(ho:o.op= .index t x i){K:g7 α}{τ:Ty}(ht:E.ty t=some τ)
  (h:xE τ (σ.ρ x) (σ.ρ i) (λv=>K v [] [])=some r) (hn:fM c σ a o w M ν K r next):o.wp P a w next Q:=by
 unfold xE at h
 obtain⟨k,n,hi,h2⟩:=oi h
 clear h
 have h:=h2
 clear h2
 have T9:=hc.ev i
 rw[hi]at T9
 have T9:=T9.int
 have hv:=hc.ev x
 have zz:=hE.ty t τ ht
 split at h
 ·rename_i len e υ l hx
  obtain⟨e',R6,hle⟩:=zz.arr
  obtain⟨e1,h⟩:=bz h
  subst e1
  obtain⟨kg,h⟩:=cD h
  obtain⟨h0,h1⟩:=vJ kg
  rw[hx]at hv
  simp only[VR]at hv
  obtain⟨cs,hu,hr⟩:=hv.agg rfl
  have dZ:=hr.idx (i:=n.toNat) ω
  refine aZ (Ju ho R6 hle hu T9 h0 h1 dZ) (hn _ [] [] _ _ _ _ h (.refl hc.mem) ?_)
  simp only[VR]
  exact V.ck dZ
 ·rename_i s hx
  obtain⟨kg,h⟩:=cD h
  obtain⟨h0,h1⟩:=vJ kg
  rw[hx]at hv
  refine aZ (Jw ho zz.str hv.str T9 h0 h1) (hn _ [] [] _ _ _ _ h (.refl hc.mem) (.mkInt _ _))
 ·cases h
theorem mG(τ:Ty):τ.cI.length=τ.size:=(Rd.zero default (λ_=>False) τ).length
theorem EU{z:Array Value}{n i s:Nat}(hz:z.size=s)(hi:i*s+s≤n):((madeCells z n).toList.drop (i*s)).take s=z.toList:=by
 apply AY
 intro j
 rw[mY]
 split
 ·rename_i hj
  rw[mZ,iH,iH]
  simp only[madeCells,Array.getElem?_map]
  rw[Array.getElem?_range,ak ω]
  simp only[Option.map_some]
  have:(i*s+j)%z.size=j:=by rw[hz,Gq,Nat.mul_add_mod,Nat.mod_eq_of_lt hj]
  rw[this,NJ ω,getElem!_pos z j ω]
 ·rename_i hj
  rw[iH,NP ω]
theorem pO.made(w:World)(M:Nat→Prop)(e:Ty){n l:Nat}(h:l*e.size≤n):pO w M e (madeCells (ck e e.cI).cells n).toList (List.replicate l e.zero):=by
 intro i hi
 rw[c7]at hi
 have:=ew (s:=e.size) hi
 rw[EU (by rw[←bm,fF,mG]) ω,fF,NQ]
 exact Rd.zero w M e
theorem CN{ρ:Operand→Value}{t:TypeId}{x y:Operand}(ho:o.op= .makeSlice t x y){v:Value}{w':World}(h:(Instr.makeSlice t (ρ x) (ρ y)).run P w= .ok v w'):(execOp ρ o).run P w= .ok (.value v) w':=by
 simp[execOp,ho,h]
theorem LJ(hE:EnvTy P E)(hc:Core c σ a.tmps w M ν){t:TypeId}{x y:Operand}(ho:o.op= .makeSlice t x y){K:g7 α}{e:Ty}(ht:E.ty t=some (.slice e)){id:Nat}
  (h:w1 (σ.ρ x) (λ_ l=>w1 (σ.ρ y) λ_ c=>cond (kW l c)
   (sv σ.H id (.own e []) (K (.ref id) [id] [(id,some (.own e (List.replicate l.toNat e.zero)))])) none)=some r) (hn:fM c σ a o w M ν K r next):o.wp P a w next Q:=by
 obtain⟨k,l,hx,h1⟩:=oi h
 obtain⟨k',n,hy,h2⟩:=oi h1
 clear h h1
 obtain⟨hk,h⟩:=cD h2
 obtain⟨bk,h⟩:=mE h
 rw[J5]at hk
 obtain⟨h0,h1,h3⟩:=bA hk
 simp only[Bd]at h3
 obtain⟨e',hu,hle⟩:=(hE.ty t _ ht).slice
 obtain⟨i,hi,hs,hz,hb⟩:=hle.base
 have LK:=hc.ev x
 have Bt:=hc.ev y
 rw[hx]at LK;rw[hy]at Bt
 have aku:(i.bytes:Int)*n≤281474976710656:=by
  have h4:(i.bytes:Int)≤2048:=ω
  have:(i.bytes:Int)*n≤2048*n:=AL h4 ω
  omega
 have dG:=run_make (P:=P) w t e' i _ hu hi hz k k' l n h0 h1 aku ω
 have hlen:(List.replicate l.toNat e.zero).length=l.toNat:=c7
 have gF:=Tr.row hc.mem bk e' (e:=e) (cs:=madeCells (ck e e.cI).cells (n.toNat*i.size)) (l:=List.replicate l.toNat e.zero) (cap:=n.toNat) (by rw[hlen];omega) (by simp[maxLen];omega)
  (by rw[size_madeCells,hs]) (pO.made w M e (uO ω ω))
 refine aZ (CN ho (by rw[LK.int,Bt.int];exact dG)) (hn _ _ _ _ _ _ _ h gF ?_)
 simp only[VR]
 exact⟨by show cq σ.H id _ id≠none;rw[ay];simp,by simp[updν]⟩
end VM
end
section
namespace VM
open Go
variable{P:Program}{E:Env}{o:Oper}{a:Act}{w:World}{M:Nat→Prop}{ν:Nat→Value}{σ:St}{c:Ctx}{α:Type}{r:α}{next:Act→World→Prop}{Q:Exit→Act→World→Prop}
theorem Ys(off:Nat)(new cs:Array Value)(h:off+new.size≤cs.size):
  (new.zipIdx.foldl (λcs (x:Value×Nat)=>cs.setIfInBounds (off+x.2) x.1) cs)=(eJ cs.toList off new.toList).toArray:=by
 have h1:new.zipIdx.foldl (λcs (x:Value×Nat)=>cs.setIfInBounds (off+x.2) x.1) cs=(new.toList.zipIdx 0).foldl (λcs (x:Value×Nat)=>cs.setIfInBounds (off+x.2) x.1) cs:=by
  rw[←Array.foldl_toList,Array.toList_zipIdx]
 rw[h1]
 obtain⟨hs,hk⟩:=Great.foldl_set off new.toList 0 cs
 apply Array.ext_getElem?
 intro k
 rw[hk k,←iH (xs:=cs)]
 have hl:new.toList.length=new.size:=bm
 have hc:cs.toList.length=cs.size:=bm
 unfold eJ
 rw[Gb]
 by_cases h2:k<off
 ·rw[ah ω,bD,tJ (by rw[cf];omega),List.getElem?_take_of_lt h2]
 ·by_cases h3:k<off+new.size
  ·rw[ak ω,tJ (by rw[aS,cf];omega),pI (by rw[cf];omega),cf]
   congr 1
   omega
  ·rw[ah ω,pI (by rw[aS,cf];omega),aS,cf,mZ]
   congr 1
   omega
theorem y5{place:Nat→Option (Nat×Nat)}{cs:Array Value}{i:Nat}{v:Value}{rest:List (Nat×Value)}{off s:Nat}(hp:place i=some (off,s))(hs:v.cells.size=s)(h:off+s≤cs.size):
  Instr.fill place cs ((i,v)::rest)=Instr.fill place (eJ cs.toList off v.cells.toList).toArray rest:=by
 have h1: ¬(decide (v.cells.size≠s)||decide (off+v.cells.size>cs.size))=true:=by simp[hs];omega
 conv=>lhs;unfold Instr.fill
 rw[hp]
 simp only
 rw[ah h1]
 congr 1
 exact Ys off v.cells cs ω
theorem sD(a:Act)(ps:Array (Nat×Operand)):(ps.map λ(i,x)=>(i,a.eval x)).toList=ps.toList.map λp=>(p.1,a.eval p.2):=by
 rw[Array.toList_map]
def PR(w:World)(M:Nat→Prop)(H:Nat→Option br)(ν:Nat→Value):List (Nat×bE)→List (Nat×Value)→Prop
 |[],[]=>True
 |p::ps,q::qs=>p.1=q.1∧VR w M H ν p.2 q.2∧PR w M H ν ps qs
 |_,_=>False
theorem PR.cg{w':World}{M':Nat→Prop}{H H':Nat→Option br}{ν':Nat→Value}(k:fK w M w' M')(g:uu H ν H' ν'): ∀{ps:List (Nat×bE)} {qs:List (Nat×Value)},PR w M H ν ps qs→PR w' M' H' ν' ps qs
 |[],[],_=>trivial
 |_::_,_::_,h=>⟨h.1,h.2.1.cg k g,PR.cg k g h.2.2⟩
 |[],_::_,h=>h.elim
 |_::_,[],h=>h.elim
theorem Core.pr(hc:Core c σ a.tmps w M ν): ∀ps:List (Nat×Operand),PR w M σ.H ν (ps.map λp=>(p.1,σ.ρ p.2)) (ps.map λp=>(p.1,a.eval p.2))
 |[]=>trivial
 |p::ps=>⟨rfl,hc.ev p.2,hc.pr ps⟩
theorem DW{e:Ty}{n:Nat}{H:Nat→Option br}: ∀(ps:List (Nat×bE)) (qs:List (Nat×Value)) (H1:Nat→Option br) (M:Nat→Prop) (l:List e.den) (cs:Array Value) (rd:List Nat) (ups:jI) (K:List e.den→List Nat→jI→Option α),
  Fz H H1→Mem c H1 w M ν→PR w M H1 ν ps qs→l.length=n→cs.size=n*e.size→pO w M e cs.toList l→H1=c4 H ups→xA e H n ps l rd ups K=some r→
  ∃l' yU kP M' cs',K l' yU kP=some r∧Tr c H1 w M ν (c4 H kP) w M' ν∧Fz H (c4 H kP)∧l'.length=n∧cs'.size=n*e.size∧pO w M' e cs'.toList l'∧
   Instr.fill (λi=>some (i*e.size,e.size)) cs qs=some cs':=by
 intro ps
 induction ps with
 |nil=>
  intro qs H1 M l cs rd ups K hz hm hp hl hs hr hH h
  cases qs with
  |cons _ _=>exact hp.elim
  |nil=>exact⟨l,rd,ups,M,cs,h,hH▸Tr.refl hm,hH▸hz,hl,hs,hr,rfl⟩
 |cons p ps ih=>
  intro qs H1 M l cs rd ups K hz hm hp hl hs hr hH h
  cases qs with
  |nil=>exact hp.elim
  |cons q qs=>
   obtain⟨h1,h2,h3⟩:=hp
   unfold xA at h
   obtain⟨hb,h⟩:=cD h
   have eV:p.1<n:=by simpa [Bb]using hb
   obtain⟨y,Yt,CO,M1,h,gF,hV,zI,_⟩:=ld hz hm h2 h
   have hlen:(q.2.cells).size=e.size:=by rw[←bm];exact hV.cells.length
   have hmul:=ew (s:=e.size) eV
   have sC:=pO.set (hr.cg gF.cg) (by rw[hl,bm,hs];exact aH _) (i:=p.1) ω hV.cells
   obtain⟨l',yU,kP,M',cs',hK,So,AG,Jb,Ua,dZ,hf⟩:=ih qs (c4 H1 CO) M1 (l.set p.1 y) (eJ cs.toList (p.1*e.size) q.2.cells.toList).toArray (Yt++rd) (ups++CO) K zI gF.mem (h3.cg gF.cg gF.goes)
    (by rw[bU];exact hl) (by rw[jg,eF (by rw[bm,bm];omega),bm,hs]) sC (by rw[fL,hH]) h
   refine⟨l',yU,kP,M',cs',hK,gF.trans So,AG,Jb,Ua,dZ,?_⟩
   rw[y5 (off:=p.1*e.size) (s:=e.size) (by rw[h1]) hlen ω]
   exact hf
theorem LM{τ:Ty}{H:Nat→Option br}{place:Nat→Option (Nat×Nat)}(CB: ∀(x:τ.den) n υ y o,DP τ x n υ y o→place n=some (o,υ.size)):
  ∀(ps:List (Nat×bE)) (qs:List (Nat×Value)) (H1:Nat→Option br) (M:Nat→Prop) (x:τ.den) (cs:Array Value) (rd:List Nat) (ups:jI) (K:τ.den→List Nat→jI→Option α),
  Fz H H1→Mem c H1 w M ν→PR w M H1 ν ps qs→Rd w M τ cs.toList x→H1=c4 H ups→mg τ H ps x rd ups K=some r→
  ∃x' yU kP M' cs',K x' yU kP=some r∧Tr c H1 w M ν (c4 H kP) w M' ν∧Fz H (c4 H kP)∧Rd w M' τ cs'.toList x'∧Instr.fill place cs qs=some cs'∧
   ∀m υ,Be τ m=some υ→(ps.all λp=> !(Nat.beq p.1 m))=true→(cs'.toList.drop (gE τ m)).take υ.size=(cs.toList.drop (gE τ m)).take υ.size:=by
 intro ps
 induction ps with
 |nil=>
  intro qs H1 M x cs rd ups K hz hm hp hr hH h
  cases qs with
  |cons _ _=>exact hp.elim
  |nil=>exact⟨x,rd,ups,M,cs,h,hH▸Tr.refl hm,hH▸hz,hr,rfl,λ_ _ _ _=>rfl⟩
 |cons p ps ih=>
  intro qs H1 M x cs rd ups K hz hm hp hr hH h
  cases qs with
  |nil=>exact hp.elim
  |cons q qs=>
   obtain⟨h1,h2,h3⟩:=hp
   unfold mg at h
   obtain⟨υ,y0,of,hf,h⟩:=qb h
   obtain⟨y,Yt,CO,M1,h,gF,hV,zI,_⟩:=ld hz hm h2 h
   obtain⟨υ',y',o',k',zW,jh,Bu⟩:=lf h
   obtain⟨rfl,rfl⟩:=zW.eq
   obtain⟨rfl,rfl⟩:=hf.eq
   obtain⟨e1,EV⟩:=bz jh
   obtain⟨x',o7,_,kE⟩:=Bu _ _ EV
   have hlen:(q.2.cells).size=(tq τ p.1).size:=by rw[←bm];exact hV.cells.length
   have hb:=hf.bound
   have FA:=hr.length
   rw[bm]at FA
   obtain⟨x2,yU,kP,M',cs',hK,So,AG,dZ,FB,Sp⟩:=ih qs (c4 H1 CO) M1 x' (eJ cs.toList (gE τ p.1) q.2.cells.toList).toArray (Yt++rd) (ups++CO) K zI gF.mem (h3.cg gF.cg gF.goes)
    (kE w M1 _ _ (hr.cg gF.cg) hV.cells) (by rw[fL,hH]) o7
   refine⟨x2,yU,kP,M',cs',hK,gF.trans So,AG,dZ,?_,λm υ jh iT=> ?_⟩
   ·rw[y5 (off:=gE τ p.1) (s:=(tq τ p.1).size) (by rw[←h1];exact CB _ _ _ _ _ hf) hlen ω]
    exact FB
   ·rw[xv,bP]at iT
    rw[Sp m υ jh iT.2]
    obtain⟨y2,o2,hf2⟩:=og jh x
    obtain⟨e3,e4⟩:=hf2.eq
    subst e3 e4
    have kQ:p.1≠m:=λe=>by have:=iT.1;rw[e,p8]at this;cases this
    have hap:=hf.apart hf2 kQ
    have vx:=hf2.bound
    show((eJ cs.toList (gE τ p.1) q.2.cells.toList).drop _).take _=_
    rw[Fw (by rw[bm];omega) (by rw[bm,bm];omega)]
theorem gD.places: ∀(τ:Ty) (fs:Array Field) (n off:Nat),gD P τ (.inr (fs,n,off))→
  ∃ps,(fs.toList.drop n).mapM (λf=>(P.info? f.type).map λi=>(f.offset,i.size))=some ps∧ ∀(x:τ.den) m υ y o,DP τ x m υ y o→ps[m]? =some (off+o,υ.size)
 | .unit,fs,n,off,h=>by
  simp only[gD]at h
  refine⟨[],?_,λx m υ y o hf=>by cases hf⟩
  rw[jN (by rw[bm];omega)];rfl
 | .pair t b,fs,n,off,h=>by
  simp only[gD]at h
  obtain⟨f,hf,ho,ha,hb⟩:=h
  obtain⟨ps,Jf,FB⟩:=gD.places b fs (n+1) (off+t.size) hb
  obtain⟨i,hi,hs,_⟩:=(show kZ P t f.type from ha).base
  have eV:n<fs.toList.length:=by rw[bm];exact(lI.1 hf).1
  have hfe:fs.toList[n]=f:=by rw[AT];exact(lI.1 hf).2
  refine⟨(off,t.size)::ps,?_,λx m υ y o zW=> ?_⟩
  ·rw[ri eV,A3,Jf,hfe,hi]
   simp[ho,hs]
  ·cases zW with
   |here=>simp
   |there _ h'=>simp[FB _ _ _ _ _ h',p6]
 | .int _,_,_,_,h| .bool,_,_,_,h| .str,_,_,_,h| .slice _,_,_,_,h| .arr _ _,_,_,_,h=>by simp[gD]at h
theorem kZ.places{τ:Ty}{t:TypeId}(h:kZ P τ t)(ha:τ.isAgg=true)(hn: ∀n e,τ≠ .arr n e):
  ∃fs ps,P.underlying t=some (.struct fs)∧fs.toList.mapM (λf=>(P.info? f.type).map λi=>(f.offset,i.size))=some ps∧ ∀(x:τ.den) m υ y o,DP τ x m υ y o→ps[m]? =some (o,υ.size):=by
 cases τ with
 |unit=>
  simp only[kZ,gD]at h
  obtain⟨_,fs,hu,hs⟩:=h
  refine⟨fs,[],hu,?_,λx m υ y o hf=>by cases hf⟩
  have:fs.toList=[]:=vz (by rw[bm];exact hs)
  rw[this];rfl
 |pair t' b=>
  simp only[kZ,gD]at h
  obtain⟨_,fs,f,hu,hf,ho,ha',hb⟩:=h
  have hg:gD P (.pair t' b) (.inr (fs,0,0)):=by
   simp only[gD]
   exact⟨f,hf,ho,ha',by simpa using hb⟩
  obtain⟨ps,Jf,FB⟩:=gD.places _ fs 0 0 hg
  exact⟨fs,ps,hu,Jf,λx m υ y o zW=>by simpa using FB x m υ y o zW⟩
 |arr n e=>exact absurd rfl (hn n e)
 |int _=>simp[Ty.isAgg]at ha
 |bool=>simp[Ty.isAgg]at ha
 |str=>simp[Ty.isAgg]at ha
 |slice _=>simp[Ty.isAgg]at ha
theorem vK{ρ:Operand→Value}{t:TypeId}{ps:Array (Nat×Operand)}(ho:o.op= .build t ps){v:Value}(h:(Instr.build t (ps.map λ(i,x)=>(i,ρ x))).run P w= .ok v w):(execOp ρ o).run P w= .ok (.value v) w:=by
 simp[execOp,ho,h]
theorem By{ρ:Operand→Value}{t:TypeId}{n:Nat}{ps:Array (Nat×Operand)}(ho:o.op= .buildSlice t n ps){v:Value}{w':World}(h:(Instr.buildSlice t n (ps.map λ(i,x)=>(i,ρ x))).run P w= .ok v w'):(execOp ρ o).run P w= .ok (.value v) w':=by
 simp[execOp,ho,h]
theorem VR.Ub{H:Nat→Option br}{τ:Ty}(ha:τ.isAgg=true){cs:Array Value}{x:τ.den}(h:Rd w M τ cs.toList x):VR w M H ν (.val τ x) (.agg cs):=by
 simp only[VR,V];rw[ak ha];exact⟨cs,rfl,h⟩
theorem LN(hE:EnvTy P E)(hc:Core c σ a.tmps w M ν){t:TypeId}{ps:Array (Nat×Operand)}(ho:o.op= .build t ps){K:g7 α}{n:Nat}{e:Ty}(ht:E.ty t=some (.arr n e))
  (h:xA e σ.H n (partsOf σ.ρ ps) (List.replicate n e.zero) [] [] (λl rd ups=>K (.val (.arr n e) l) rd ups)=some r) (hn:fM c σ a o w M ν K r next):o.wp P a w next Q:=by
 have hl:=hE.ty t _ ht
 obtain⟨e',hu,hle⟩:=hl.arr
 obtain⟨i,hi,hs,hz,_⟩:=hl.base
 obtain⟨ie,hie,hes,_⟩:=hle.base
 have Yu:=Rd.arr.1 (Rd.zero w M (.arr n e))
 obtain⟨l',yU,kP,M',cs',hK,gF,AG,Jb,Ua,dZ,hf⟩:=DW (partsOf σ.ρ ps) (ps.toList.map λ(p:Nat×Operand)=>(p.1,a.eval p.2)) σ.H M (List.replicate n e.zero) (Ty.cI (.arr n e)).toArray [] [] _ (.refl _) hc.mem (hc.pr ps.toList)
  (by rw[c7]) (by rw[jg];exact Yu.2.1) Yu.2.2 rfl h
 refine aZ (vK ho (run_build w t _ cs' ?_)) (hn _ _ _ _ _ _ _ hK gF (VR.Ub rfl (Rd.arr.2 ⟨Jb,by rw[bm];exact Ua,dZ⟩)))
 unfold Program.built
 rw[hi,hu]
 simp only[hz,hie,hes,sD]
 exact hf
theorem EW(hE:EnvTy P E)(hc:Core c σ a.tmps w M ν){t:TypeId}{ps:Array (Nat×Operand)}(ho:o.op= .build t ps){K:g7 α}{τ:Ty}(ht:E.ty t=some τ)(Yv: ∀n e,τ≠ .arr n e)
  (h:cond τ.isAgg (mg τ σ.H (partsOf σ.ρ ps) τ.zero [] [] (λl rd ups=>K (ab9 E (partsOf σ.ρ ps) τ l) rd ups)) none=some r) (hn:fM c σ a o w M ν K r next):o.wp P a w next Q:=by
 obtain⟨GC,h⟩:=cD h
 have hl:=hE.ty t _ ht
 obtain⟨fs,pl,hu,Jf,CB⟩:=hl.places GC Yv
 obtain⟨i,hi,hs,hz,_⟩:=hl.base
 obtain⟨l',yU,kP,M',cs',hK,gF,AG,dZ,hf,Sp⟩:=LM (place:=(pl.toArray[·]?)) (λx n υ y o hf=>by simpa using CB x n υ y o hf) (partsOf σ.ρ ps) (ps.toList.map λ(p:Nat×Operand)=>(p.1,a.eval p.2)) σ.H M τ.zero τ.cI.toArray [] [] _ (.refl _) hc.mem (hc.pr ps.toList)
  (Rd.zero w M τ) rfl h
 have hvr:VR w M' (c4 σ.H kP) ν (ab9 E (partsOf σ.ρ ps) τ l') (.agg cs'):=by
  unfold ab9
  split
  ·rename_i n e q5
   cases iT:(partsOf σ.ρ ps).all λp=> !(Nat.beq p.1 n)
   ·exact VR.Ub GC dZ
   ·have hq:=LD q5
    show VR w M' (c4 σ.H kP) ν (.Lv τ l' n) (.agg cs')
    have hv:=VR.Ub (H:=c4 σ.H kP) (ν:=ν) GC dZ
    simp only[VR]at hv ⊢
    refine⟨hv,cs',none,rfl,?_⟩
    have hfq:Be τ n=some (.slice e):=by
     unfold gm at hq
     split at hq
     ·rename_i a ha
      rw[ha]
      have:=bA hq
      rw[this]
     ·cases hq
    have h2:=Sp n _ hfq iT
    have h3:=CI hq
    simp only[cM,mC]at h3
    have h4:=e7 (λl=>l[0]?) h2
    simp only[mY,mZ,mC]at h4
    rw[ak (show 0<(Ty.slice e).size from Nat.one_pos),ak (show 0<(Ty.slice e).size from Nat.one_pos)]at h4
    rw[h4];exact h3
  ·exact VR.Ub GC dZ
 refine aZ (vK ho (run_build w t _ cs' ?_)) (hn _ _ _ _ _ _ _ hK gF hvr)
 unfold Program.built
 rw[hi,hu]
 have hzc:(ck τ τ.cI).cells=τ.cI.toArray:=by apply g8;rw[fF]
 simp only[hz,Jf,sD,hzc]
 exact hf
theorem Sq{ps:List (Nat×bE)}{τ:Ty}{n k:Nat}(h:Lw E ps τ=some (n,k)):(∃e,gm [.iK n] τ (.slice e)=true)∧(∀p∈ps,p.1=n→p.2= .ref k)∧ ∃p∈ps,p.1=n:=by
 unfold Lw at h
 split at h
 ·rename_i m e Vz q5
  split at h
  ·rename_i i j hf
   cases h
   refine⟨⟨e,LD q5⟩,λp hp Yw=> ?_,?_⟩
   ·have:p∈ps.filter λp=>Nat.beq p.1 n:=se.2 ⟨hp,by rw[Yw];exact p8 n⟩
    rw[hf,cw]at this
    rw[this]
   ·have:(i,bE.ref k)∈ps.filter λp=>Nat.beq p.1 n:=by rw[hf];simp
    obtain⟨h1,h2⟩:=se.1 this
    exact⟨_,h1,fA h2⟩
  ·cases h
 ·cases h
theorem Jx{τ:Ty}{H:Nat→Option br}{place:Nat→Option (Nat×Nat)}(CB: ∀(x:τ.den) n υ y o,DP τ x n υ y o→place n=some (o,υ.size)){n k:Nat}{e:Ty}(hq:Be τ n=some (.slice e))(CG:(ν k).cells= #[ν k]):
  ∀(ps:List (Nat×bE)) (qs:List (Nat×Value)) (H1:Nat→Option br) (M:Nat→Prop) (x:τ.den) (cs real:Array Value) (u:Value) (rd:List Nat) (ups:jI) (K:τ.den→List Nat→jI→Option α),
  Fz H H1→Mem c H1 w M ν→PR w M H1 ν ps qs→(∀p∈ps,p.1=n→p.2= .ref k)→Rd w M τ cs.toList x→real.toList=eJ cs.toList (gE τ n) [u]→H1=c4 H ups→mg τ H (xG n ps) x rd ups K=some r→
  ∃x' yU kP M' u',∃(cs' Bz:Array Value),K x' yU kP=some r∧Tr c H1 w M ν (c4 H kP) w M' ν∧Fz H (c4 H kP)∧Rd w M' τ cs'.toList x'∧Instr.fill place real qs=some Bz∧Bz.toList=eJ cs'.toList (gE τ n) [u']∧
   (u'=ν k∨(u'=u∧ ∀p∈ps,p.1≠n)):=by
 intro ps
 induction ps with
 |nil=>
  intro qs H1 M x cs real u rd ups K hz hm hp iT hr hu hH h
  cases qs with
  |cons _ _=>exact hp.elim
  |nil=>exact⟨x,rd,ups,M,u,cs,real,h,hH▸Tr.refl hm,hH▸hz,hr,rfl,hu,.inr ⟨rfl,λ_ h=>by simp at h⟩⟩
 |cons p ps ih=>
  intro qs H1 M x cs real u rd ups K hz hm hp iT hr hu hH h
  cases qs with
  |nil=>exact hp.elim
  |cons q qs=>
   obtain⟨h1,h2,h3⟩:=hp
   have ai3: ∀p∈ps,p.1=n→p.2= .ref k:=λp hp=>iT p (a8 _ hp)
   obtain⟨yn,on,hfn⟩:=og hq x
   have hbn:=hfn.bound
   have hon:=hfn.eq.2
   subst hon
   rw[show(Ty.slice e).size=1 from rfl]at hbn
   have FA:=hr.length
   rw[bm]at FA
   have hrs:real.size=cs.size:=by
    have h0:gE τ n+[u].length≤cs.toList.length:=by rw[bm];exact cA hbn (Nat.le_of_eq FA.symm)
    rw[←bm,hu,eF h0,bm]
   by_cases Yw:p.1=n
   ·
    have BA:=iT p bt Yw
    have hb:Nat.beq p.1 n=true:=by rw[Yw];exact p8 n
    have h:mg τ H ((p.1,bE.emp)::xG n ps) x rd ups K=some r:=by
     have e1:xG n (p::ps)=(p.1,bE.emp)::xG n ps:=by simp[xG,hb]
     rw[e1]at h;exact h
    unfold mg at h
    obtain⟨υ,y0,of,hf,h⟩:=qb h
    have hve:VR w M H1 ν .emp (.slice none 0 0):=by simp only[VR];exact⟨none,rfl⟩
    obtain⟨y,Yt,CO,M1,h,gF,hV,zI,_⟩:=ld hz hm hve h
    obtain⟨υ',y',o',k',zW,jh,Bu⟩:=lf h
    obtain⟨rfl,rfl⟩:=zW.eq
    obtain⟨rfl,rfl⟩:=hf.eq
    obtain⟨e1,EV⟩:=bz jh
    obtain⟨x',o7,_,kE⟩:=Bu _ _ EV
    have q6:(tq τ p.1).size=1:=by
     have h5:=hfn.eq.1
     rw[Yw,←h5];rfl
    rw[BA]at h2
    simp only[VR]at h2
    have Yx:=kE w M1 _ _ (hr.cg gF.cg) hV.cells
    have hcn:(Value.slice none 0 0).cells.toList=[.slice none 0 0]:=rfl
    rw[hcn]at Yx
    obtain⟨x2,yU,kP,M',u',cs',Bz,hK,So,AG,dZ,FB,VH,hor⟩:=ih qs (c4 H1 CO) M1 x' (eJ cs.toList (gE τ p.1) [.slice none 0 0]).toArray (eJ real.toList (gE τ n) [ν k]).toArray (ν k) (Yt++rd) (ups++CO) K zI gF.mem (h3.cg gF.cg gF.goes) ai3
     Yx (by
      show eJ real.toList (gE τ n) [ν k]=eJ (eJ cs.toList (gE τ p.1) [.slice none 0 0]) (gE τ n) [ν k]
      rw[hu,Yw,u2 (by rw[bm];omega),u2 (by rw[bm];omega)]) (by rw[fL,hH]) o7
    refine⟨x2,yU,kP,M',u',cs',Bz,hK,gF.trans So,AG,dZ,?_,VH,.inl (hor.elim id λh=>h.1)⟩
    have hpq:place q.1=some (gE τ n,1):=by rw[←h1,Yw];exact CB _ _ _ _ _ hfn
    rw[y5 (off:=gE τ n) (s:=1) hpq (by rw[h2.2,CG];rfl) ω,h2.2,CG]
    exact FB
   ·have hb:Nat.beq p.1 n=false:=by
     cases hb:Nat.beq p.1 n
     ·rfl
     ·exact absurd (fA hb) Yw
    have h:mg τ H (p::xG n ps) x rd ups K=some r:=by
     have e1:xG n (p::ps)=p::xG n ps:=by simp[xG,hb]
     rw[e1]at h;exact h
    unfold mg at h
    obtain⟨υ,y0,of,hf,h⟩:=qb h
    obtain⟨y,Yt,CO,M1,h,gF,hV,zI,_⟩:=ld hz hm h2 h
    obtain⟨υ',y',o',k',zW,jh,Bu⟩:=lf h
    obtain⟨rfl,rfl⟩:=zW.eq
    obtain⟨rfl,rfl⟩:=hf.eq
    obtain⟨e1,EV⟩:=bz jh
    obtain⟨x',o7,_,kE⟩:=Bu _ _ EV
    have hlen:(q.2.cells).size=(tq τ p.1).size:=by rw[←bm];exact hV.cells.length
    have hbf:=hf.bound
    have hap:=hf.apart hfn Yw
    rw[show(Ty.slice e).size=1 from rfl]at hap
    obtain⟨x2,yU,kP,M',u',cs',Bz,hK,So,AG,dZ,FB,VH,hor⟩:=ih qs (c4 H1 CO) M1 x' (eJ cs.toList (gE τ p.1) q.2.cells.toList).toArray (eJ real.toList (gE τ p.1) q.2.cells.toList).toArray u (Yt++rd) (ups++CO) K zI gF.mem (h3.cg gF.cg gF.goes) ai3
     (kE w M1 _ _ (hr.cg gF.cg) hV.cells) (by
      show eJ real.toList (gE τ p.1) q.2.cells.toList=eJ (eJ cs.toList (gE τ p.1) q.2.cells.toList) (gE τ n) [u]
      rw[hu]
      have hlu:[u].length=1:=rfl
      have Uc:q.2.cells.toList.length=(tq τ p.1).size:=by rw[bm];exact hlen
      exact Oc (a:=[u]) (b:=q.2.cells.toList) (by rw[hlu,Uc];omega) (by rw[hlu,bm];omega) (by rw[Uc,bm];omega)) (by rw[fL,hH]) o7
    refine⟨x2,yU,kP,M',u',cs',Bz,hK,gF.trans So,AG,dZ,?_,VH,hor.imp id λh=>⟨h.1,λp' R5=>(bc.1 R5).elim (λe=>e▸Yw) (h.2 p')⟩⟩
    rw[y5 (off:=gE τ p.1) (s:=(tq τ p.1).size) (by rw[←h1];exact CB _ _ _ _ _ hf) hlen ω]
    exact FB
theorem Oj(hE:EnvTy P E)(hc:Core c σ a.tmps w M ν){t:TypeId}{ps:Array (Nat×Operand)}(ho:o.op= .build t ps){K:g7 α}{τ:Ty}(ht:E.ty t=some τ)(Yv: ∀n e,τ≠ .arr n e){n k:Nat}(hs:Lw E (partsOf σ.ρ ps) τ=some (n,k))
  (h:(match σ.H k with
   |some (.own _ _)=>cond τ.isAgg (mg τ σ.H (xG n (partsOf σ.ρ ps)) τ.zero [] [] λx rd ups=>K (.Jo τ x n k) (k::rd) ups) none
   |_=>none)=some r) (hn:fM c σ a o w M ν K r next):o.wp P a w next Q:=by
 obtain⟨⟨e,hq⟩,iT,p0,hp0,avC⟩:=Sq hs
 split at h
 ·rename_i e' l hk
  obtain⟨GC,h⟩:=cD h
  have hfq:Be τ n=some (.slice e):=by
   unfold gm at hq
   split at hq
   ·rename_i a ha
    rw[ha]
    rw[show a= .slice e from bA hq]
   ·cases hq
  have CG:(ν k).cells= #[ν k]:=by
   have:=hc.mem.ke k _ hk
   simp only[ER]at this
   rcases this with⟨_,ad,hv⟩|⟨b,cs,t,cap,hv,_⟩<;>rw[hv]<;>rfl
  have hl:=hE.ty t _ ht
  obtain⟨fs,pl,hu,Jf,CB⟩:=hl.places GC Yv
  obtain⟨i,hi,q6,hz,_⟩:=hl.base
  have R8:τ.cI[gE τ n]? =some (.slice none 0 0):=by simpa [cM]using CI hq
  obtain⟨x',yU,kP,M',u',cs',Bz,hK,gF,AG,dZ,hf,VH,hor⟩:=Jx (place:=(pl.toArray[·]?)) (λx n υ y o hf=>by simpa using CB x n υ y o hf) hfq CG (partsOf σ.ρ ps) (ps.toList.map λ(p:Nat×Operand)=>(p.1,a.eval p.2)) σ.H M τ.zero τ.cI.toArray τ.cI.toArray (.slice none 0 0) [] [] _ (.refl _) hc.mem (hc.pr ps.toList) iT
   (Rd.zero w M τ) (Gx R8).symm rfl h
  have hu2:u'=ν k:=hor.elim id λh=>absurd avC (h.2 p0 hp0)
  subst hu2
  refine aZ (vK ho (run_build w t _ Bz ?_)) (hn _ _ _ _ _ _ _ hK gF ?_)
  ·unfold Program.built
   rw[hi,hu]
   have hzc:(ck τ τ.cI).cells=τ.cI.toArray:=by apply g8;rw[fF]
   simp only[hz,Jf,sD,hzc]
   exact hf
  ·simp only[VR]
   refine⟨Bz,cs'.toList,rfl,dZ,VH,?_,rQ hq⟩
   obtain⟨e1,GJ,_⟩:=gF.goes.ke k _ hk
   rw[GJ];simp
 ·cases h
theorem Jy(hE:EnvTy P E)(hc:Core c σ a.tmps w M ν){t:TypeId}{n:Nat}{ps:Array (Nat×Operand)}(ho:o.op= .buildSlice t n ps){K:g7 α}{e:Ty}(ht:E.ty t=some (.slice e)){id:Nat}
  (h:cond (Nat.ble (n*(e.size+1)) 16777216) (sv σ.H id (.own e []) (xA e σ.H n (partsOf σ.ρ ps) (List.replicate n e.zero) [] [] λl rd ups=>K (.ref id) (id::rd) (ups++[(id,some (.own e l))]))) none=some r)
  (hn:fM c σ a o w M ν K r next):o.wp P a w next Q:=by
 obtain⟨hb,h⟩:=cD h
 obtain⟨bk,h⟩:=mE h
 have hb:=Gc hb
 rw[Nat.mul_add,Nat.mul_one]at hb
 obtain⟨e',hu,hle⟩:=(hE.ty t _ ht).slice
 obtain⟨ie,hie,hes,hz,_⟩:=hle.base
 obtain⟨l',yU,kP,M',cs',hK,gF,AG,Jb,Ua,dZ,hf⟩:=DW (partsOf σ.ρ ps) (ps.toList.map λ(p:Nat×Operand)=>(p.1,a.eval p.2)) σ.H M (List.replicate n e.zero) (madeCells (ck e e.cI).cells (n*e.size)) [] [] _ (.refl _) hc.mem (hc.pr ps.toList)
  (by rw[c7]) (size_madeCells _ _) (pO.made w M e (aH _)) rfl h
 have akj:c4 σ.H kP id=none:=AG.none bk
 have xN:=gF.trans (Tr.row gF.mem akj e' (e:=e) (cs:=cs') (l:=l') (cap:=n) ω (by simp[maxLen];omega) Ua dZ)
 have dG:(Instr.buildSlice t n (ps.map λ(i,x)=>(i,a.eval x))).run P w= .ok (.slice (some ⟨w.heap.size,0,none⟩) n n) (w.alloc (.cells cs' e')):=by
  by_cases h0:n*e.size=0
  ·rw[h0]at hf
   have hm0:madeCells (ck e e.cI).cells 0=(Array.range 0).map λi:Nat=>(#[]:Array Value)[i%0]! :=by simp[madeCells]
   rw[hm0]at hf
   rw[←sD]at hf
   simp[Instr.buildSlice,run_underlying hu,Go.sizeOf,typeInfo,hie,hes,h0,newRow]at hf ⊢
   simp[hf]
  ·refine run_buildSlice w t e' n _ cs' ie _ hu hie hz (by rw[hes];omega) (by rw[hes];exact h0) ?_
   rw[hes,sD]
   exact hf
 refine aZ (By ho dG) (hn _ _ _ _ _ (λb=>M' b∨b=w.heap.size) (updν ν id (.slice (some ⟨w.heap.size,0,none⟩) l'.length n)) hK ?_ ?_)
 ·rw[fL];exact xN
 ·simp only[VR]
  exact⟨by rw[fL];show cq _ id _ id≠none;rw[ay];simp,by simp[updν,Jb]⟩
end VM
end
section
namespace VM
open Go
variable{P:Program}{E:Env}{o:Oper}{a:Act}{w:World}{M:Nat→Prop}{ν:Nat→Value}{σ:St}{c:Ctx}{α:Type}{r:α}{next:Act→World→Prop}{Q:Exit→Act→World→Prop}
def Bnd(o:Option Value)(d l:Int):Prop:=(o=none∧l=d)∨ ∃k,o=some (.int k l)
theorem qd(hc:Core c σ a.tmps w M ν){x:Option Operand}{d:Int}{k:Int→Option α}(h:zv (x.map σ.ρ) d k=some r): ∃l,k l=some r∧Bnd (x.map a.eval) d l:=by
 cases x with
 |none=>exact⟨d,h,.inl ⟨rfl,rfl⟩⟩
 |some x=>
  obtain⟨i,n,hx,h⟩:=oi (h:w1 (σ.ρ x) (λ_ x=>k x)=some r)
  have hv:=hc.ev x
  rw[hx]at hv
  exact⟨n,h,.inr ⟨i,by rw[←hv.int];rfl⟩⟩
theorem wO{s:Bool}{len cap:Nat}{lo hi mx:Option Value}{l h m:Int}(xf:Bnd lo 0 l)(Kb:Bnd hi len h)(Ns:Bnd mx cap m)(hm:mx.isNone=true∨hi.isSome=true)
  (h0:0≤l) (h1:l≤h) (h2:h≤m) (h3:m≤cap):(Instr.sliceBounds s len cap lo hi mx).run P w= .ok (l.toNat,h.toNat,m.toNat) w:=by
 have hb: ∀(k:IntKind) (i:Int) (y:Nat) cd,0≤i→i≤y→(Instr.sliceBound (.int k i) y cd).run P w= .ok i.toNat w:=by
  intro k i y cd h1 h2
  simp[Instr.sliceBound,asIntOf,h1,h2]
 have jh:((m.toNat:Nat):Int)=m:=ω
 have hh':((h.toNat:Nat):Int)=h:=ω
 rcases Ns with⟨rfl,rfl⟩|⟨km,rfl⟩
 ·rcases Kb with⟨rfl,rfl⟩|⟨kh,rfl⟩
  ·rcases xf with⟨rfl,rfl⟩|⟨kl,rfl⟩
   ·simp[Instr.sliceBounds]
   ·simp[Instr.sliceBounds,hb kl l len _ h0 h1]
  ·rcases xf with⟨rfl,rfl⟩|⟨kl,rfl⟩
   ·simp[Instr.sliceBounds,hb kh h cap _ ω h2]
   ·simp[Instr.sliceBounds,hb kh h cap _ ω h2,hb kl l h.toNat _ h0 ω]
 ·rcases Kb with⟨rfl,rfl⟩|⟨kh,rfl⟩
  ·simp at hm
  ·rcases xf with⟨rfl,rfl⟩|⟨kl,rfl⟩
   ·simp[Instr.sliceBounds,hb km m cap _ ω h3,hb kh h m.toNat _ ω ω]
   ·simp[Instr.sliceBounds,hb km m cap _ ω h3,hb kh h m.toNat _ ω ω,hb kl l h.toNat _ h0 ω]
theorem Jz{ρ:Operand→Value}{t:TypeId}{x:Operand}{lo hi mx:Option Operand}(ho:o.op= .slice t x lo hi mx){s:ByteArray}{l h:Int}(hu:P.underlying t=some .string)(hx:ρ x= .string s)
  (xf:Bnd (lo.map ρ) 0 l) (Kb:Bnd (hi.map ρ) s.size h) (Ns:mx.isNone=true) (h0:0≤l) (h1:l≤h) (h2:h≤s.size):(execOp ρ o).run P w= .ok (.value (.string (s.extract l.toNat h.toNat))) w:=by
 have hm:mx=none:=by simpa using Ns
 subst hm
 have hb:=wO (P:=P) (w:=w) (s:=false) xf Kb (.inl ⟨rfl,rfl⟩) (.inl rfl) h0 h1 h2 (fU _)
 simp[execOp,ho,hx,Instr.sliceAt,Instr.slice,run_underlying hu,hb]
theorem rp{ρ:Operand→Value}{t e:TypeId}{x:Operand}{lo hi mx:Option Operand}(ho:o.op= .slice t x lo hi mx){τ:Ty}{ad:Option Addr}{len cap:Nat}{l h m:Int}(hu:P.underlying t=some (.slice e))(hle:kZ P τ e)(hx:ρ x= .slice ad len cap)
  (xf:Bnd (lo.map ρ) 0 l) (Kb:Bnd (hi.map ρ) len h) (Ns:Bnd (mx.map ρ) cap m) (hm:(mx.map ρ).isNone=true∨(hi.map ρ).isSome=true) (h0:0≤l) (h1:l≤h) (h2:h≤m) (h3:m≤cap):
  (execOp ρ o).run P w= .ok (.value (.slice (if m.toNat=l.toNat then ad else ad.map (·.add (l.toNat*τ.size))) (h.toNat-l.toNat) (m.toNat-l.toNat))) w:=by
 have hb:=wO (P:=P) (w:=w) (s:=true) xf Kb Ns hm h0 h1 h2 h3
 simp[execOp,ho,hx,Instr.sliceAt,Instr.slice,run_underlying hu,hb,dy hle]
theorem DX{x:Option Operand}(h:kD x=true)(a:Act): ∃k,x.map a.eval=some (.int k 0):=by
 unfold kD at h
 split at h
 ·rename_i k n
  have:n=0:=by simpa using h
  subst this
  exact⟨k,rfl⟩
 ·cases h
theorem Rd.cut{e:Ty}{ad:Option Addr}{len cap:Nat}{x:List e.den}(h:Rd w M (.slice e) [.slice ad len cap] x){l hh m:Int}(h0:0≤l)(h1:l≤hh)(h2:hh≤m)(hl:hh≤x.length):
  Rd w M (.slice e) [.slice (if m.toNat=l.toNat then ad else ad.map (·.add (l.toNat*e.size))) (hh.toNat-l.toNat) (m.toNat-l.toNat)] (List.drop l.toNat (List.take hh.toNat x)):=by
 simp only[Rd,fT,fD]at h ⊢
 obtain⟨a',ng,hv,hc,hr⟩:=h
 cases hv
 have hlen:ℓ (List.drop l.toNat (List.take hh.toNat x))=hh.toNat-l.toNat:=by rw[dY,cf];omega
 refine⟨_,_,by rw[hlen],by rw[hlen];omega,λi hi=> ?_⟩
 rw[hlen]at hi
 obtain⟨b,off,ha,hb,hm,cs,pN,kE⟩:=hr (l.toNat+i) ω
 rw[ah ω]
 refine⟨b,off+l.toNat*e.size,by rw[ha];simp[Addr.add_lit],hb,hm,cs,?_,?_⟩
 ·rw[show off+l.toNat*e.size+i*e.size=off+(l.toNat+i)*e.size from by rw[eD];omega];exact pN
 ·simp only[Ge,Gh,AZ]at kE ⊢
  exact kE
theorem VR.emp{H:Nat→Option br}{v:Value}:VR w M H ν .emp v↔ ∃ad,v= .slice ad 0 0:=by simp[VR]
theorem Yy(hE:EnvTy P E)(hc:Core c σ a.tmps w M ν){t:TypeId}{x:Operand}{lo hi mx:Option Operand}(ho:o.op= .slice t x lo hi mx){K:g7 α}{τ:Ty}(ht:E.ty t=some τ)
  (h:sy τ (lo.isNone&&kD hi&&kD mx) (σ.ρ x) (lo.map σ.ρ) (hi.map σ.ρ) (mx.map σ.ρ) σ.H K=some r) (hn:fM c σ a o w M ν K r next):o.wp P a w next Q:=by
 have zz:=hE.ty t τ ht
 have hv:=hc.ev x
 have R8: ∀(e:Ty) (e':TypeId) (ad:Option Addr) (len cap:Nat),P.underlying t=some (.slice e')→kZ P e e'→a.eval x= .slice ad len cap→(lo.isNone&&kD hi&&kD mx)=true→
   ∃ad',(execOp a.eval o).run P w= .ok (.value (.slice ad' 0 0)) w:=by
  intro e e' ad len cap hu hle hx hz
  simp only[bP]at hz
  obtain⟨⟨h1,h2⟩,h3⟩:=hz
  have h1:lo=none:=by simpa using h1
  subst h1
  obtain⟨k2,h2⟩:=DX h2 a
  obtain⟨k3,h3⟩:=DX h3 a
  have:=rp (P:=P) (w:=w) ho hu hle hx (l:=0) (h:=0) (m:=0) (.inl ⟨rfl,rfl⟩) (.inr ⟨k2,h2⟩) (.inr ⟨k3,h3⟩) (.inr (by rw[h2];rfl)) ω ω ω ω
  exact⟨_,this⟩
 unfold sy at h
 split at h
 ·rename_i s hx
  obtain⟨hm,h⟩:=cD h
  obtain⟨l,h,xf⟩:=qd hc h
  obtain⟨hh,h,Kb⟩:=qd hc h
  obtain⟨hk,h⟩:=cD h
  rw[sr]at hk
  obtain⟨h0,h1,h2,h3⟩:=bA hk
  rw[hx]at hv
  exact aZ (Jz ho zz.str hv.str xf Kb (by simpa using hm) h0 h1 h2) (hn _ [] [] _ _ _ _ h (.refl hc.mem) (.mkStr _))
 ·rename_i e hx
  obtain⟨e',hu,hle⟩:=zz.slice
  rw[hx]at hv
  obtain⟨ad,hv⟩:=VR.emp.1 hv
  cases hz:(lo.isNone&&kD hi&&kD mx)
  ·rw[hz]at h
   replace h:cond (mx.map σ.ρ).isNone (zv (lo.map σ.ρ) 0 λl=>zv (hi.map σ.ρ) 0 λh=>cond (jt l h 0 0) (K .emp [] []) none) none=some r:=h
   obtain⟨hm,h⟩:=cD h
   obtain⟨l,h,xf⟩:=qd hc h
   obtain⟨hh,h,Kb⟩:=qd hc h
   obtain⟨hk,hK⟩:=cD h
   rw[sr]at hk
   obtain⟨h0,h1,h2,h3⟩:=bA hk
   have jh:mx=none:=by simpa using hm
   subst jh
   have:=rp (P:=P) (w:=w) ho hu hle hv xf Kb (.inl ⟨rfl,rfl⟩) (.inl rfl) h0 h1 (m:=0) ω ω
   refine aZ this (hn _ [] [] _ _ _ _ hK (.refl hc.mem) (VR.emp.2 ?_))
   rw[show hh.toNat-l.toNat=0 from by omega,show(0:Int).toNat-l.toNat=0 from by omega]
   exact⟨_,rfl⟩
  ·rw[hz]at h
   obtain⟨ad',dG⟩:=R8 e e' ad 0 0 hu hle hv hz
   exact aZ dG (hn _ [] [] _ _ _ _ h (.refl hc.mem) (VR.emp.2 ⟨_,rfl⟩))
 ·rename_i e kQ
  obtain⟨e',hu,hle⟩:=zz.slice
  cases hz:(lo.isNone&&kD hi&&kD mx)
  ·rw[hz]at h
   obtain⟨y,rd,ups,M',h,gF,hV,_⟩:=ld (.refl _) hc.mem hv h
   replace h:cond ((mx.map σ.ρ).isNone||(hi.map σ.ρ).isSome) (zv (lo.map σ.ρ) 0 λl=>zv (hi.map σ.ρ) (ℓ y:Int) λh=>zv (mx.map σ.ρ) (ℓ y:Int) λm=>
    cond (jt l h m (ℓ y:Int)) (K (.val (.slice e) (List.drop l.toNat (List.take h.toNat y))) rd ups) none) none=some r:=h
   obtain⟨hm,h⟩:=cD h
   obtain⟨l,h,xf⟩:=qd hc h
   obtain⟨hh,h,Kb⟩:=qd hc h
   obtain⟨m,h,Ns⟩:=qd hc h
   obtain⟨hk,h⟩:=cD h
   rw[sr]at hk
   obtain⟨h0,h1,h2,h3⟩:=bA hk
   have hr:=V.slice.1 hV
   have dZ:=hr
   simp only[Rd,fT,fD]at dZ
   obtain⟨ad,cap,hx,aks,_⟩:=dZ
   rw[hx]at hr
   have jh:(mx.map a.eval).isNone=true∨(hi.map a.eval).isSome=true:=by
    simp only[ob,Option.isNone_map,Option.isSome_map]at hm ⊢;exact hm
   have Yz: ∃m',Bnd (mx.map a.eval) cap m'∧hh≤m'∧m'≤cap:=by
    rcases Ns with⟨h9,_⟩|⟨k,h9⟩
    ·exact⟨cap,.inl ⟨h9,rfl⟩,ω,fU _⟩
    ·exact⟨m,.inr ⟨k,h9⟩,h2,ω⟩
   obtain⟨m',Yz,h4,h5⟩:=Yz
   have dG:=rp (P:=P) (w:=w) ho hu hle hx xf Kb Yz jh h0 h1 h4 h5
   refine aZ dG (hn _ _ _ _ _ M' _ h gF ?_)
   simp only[VR]
   exact V.slice.2 (hr.cut h0 h1 h4 ω)
  ·rw[hz]at h
   obtain⟨y,rd,h,hS⟩:=DQ hc.mem hv h
   obtain⟨ad,cap,hx,_⟩:=hS
   obtain⟨ad',dG⟩:=R8 e e' ad _ cap hu hle hx hz
   exact aZ dG (hn _ _ [] _ _ _ _ h (.refl hc.mem) (VR.emp.2 ⟨_,rfl⟩))
 ·cases h
theorem VI(hE:EnvTy P E)(hc:Core c σ a.tmps w M ν){t:TypeId}{x:Operand}{lo hi mx:Option Operand}(ho:o.op= .slice t x lo hi mx){K:g7 α}{τ:Ty}(ht:E.ty t=some τ)
  (h:xD E τ (lo.isNone&&kD hi&&kD mx) (σ.ρ x) (lo.map σ.ρ) (hi.map σ.ρ) (mx.map σ.ρ) σ.H K=some r) (hn:fM c σ a o w M ν K r next):o.wp P a w next Q:=by
 unfold xD at h
 split at h
 ·rename_i e id lo' hvw hx xf Kb Ns
  have zz:=hE.ty t _ ht
  obtain⟨e',hu,hle⟩:=zz.slice
  have hv:=hc.ev x
  rw[hx]at hv
  simp only[VR]at hv
  obtain⟨h0,hv⟩:=hv
  have h:zv (lo.map σ.ρ) 0 (λi=>match σ.H id with
   |some (.own e' l)=>ju e' e (cond (jt i (ℓ l:Int) (ℓ l:Int) (ℓ l:Int)) (K (.sub id e i.toNat) [id] []) none)
   |_=>none)=some r:=by rw[xf];exact h
  obtain⟨i,h,hb⟩:=qd hc h
  split at h
  ·rename_i e2 l bk
   obtain⟨e1,h⟩:=dW h
   subst e1
   obtain⟨hk,h⟩:=cD h
   rw[sr]at hk
   obtain⟨h1,h2,_,_⟩:=bA hk
   obtain⟨ad,cap,hnu⟩:=ER.GQ (hc.mem.ke id _ bk)
   have aks:l.length≤cap:=by
    have:=hc.mem.ke id _ bk
    simp only[ER]at this
    rcases this with⟨rfl,a,R7⟩|⟨b,cs,t,cp,R7,_,_,_,hl,_⟩
    ·simp
    ·rw[hnu]at R7;simp only[Value.slice.injEq]at R7;obtain⟨_,_,rfl⟩:=R7;exact hl
   have avD:hi=none:=by simpa using Kb
   have Yz:mx=none:=by simpa using Ns
   subst avD Yz
   have dG:=rp (P:=P) (w:=w) ho hu hle (hv.trans hnu) (l:=i) (h:=(l.length:Int)) (m:=(cap:Int)) hb (.inl ⟨rfl,rfl⟩) (.inl ⟨rfl,rfl⟩) (.inl rfl) h1 h2 ω (fU _)
   refine aZ dG (hn _ _ [] _ _ _ _ h (.refl hc.mem) ?_)
   simp only[VR]
   exact⟨h0,ad,_,cap,hnu,by simp⟩
  ·cases h
 ·exact Yy hE hc ho ht h hn
end VM
end
section
namespace VM
open Go
variable{P:Program}{E:Env}{o:Oper}{a:Act}{w:World}{M:Nat→Prop}{ν:Nat→Value}{σ:St}{c:Ctx}{α:Type}{r:α}{next:Act→World→Prop}{Q:Exit→Act→World→Prop}
theorem tQ{t ty e:TypeId}{i:TypeInfo}(ht:P.underlying t=some (.slice e))(hi:P.info? e=some i)(base:Option Addr)(n cap:Nat)(h:n≤cap)(a':Option Addr)(cp:Nat):
  (Builtin.append_ #[t,t] ty #[.slice base n cap,.slice a' 0 cp]).run P w= .ok (.slice base n cap) w:=by
 cases a'<;>cases base<;>simp[Builtin.append_,run_underlying ht,Go.sizeOf,typeInfo,hi,Builtin.lenOf,h,Builtin.firstCells,loadCells,loadCellsFrom,storeCells]
theorem Ol{t ty e te:TypeId}{i:TypeInfo}(ht:P.underlying t=some (.slice e))(hi:P.info? e=some i){b n cap m cp:Nat}{a':Addr}{news:List Value}{cs:Array Value}
  (hg:w.heap[b]? =some (.cells cs te (0,0))) (hs:cs.size=cap*i.size) (hl:news.length=m*i.size) (hn: ∀j u,news[j]? =some u→w.cell? (a'.add j)=some u) (h1: ∀u∈news,u.oneCell'=true) (hr:n+m≤cap):
  (Builtin.append_ #[t,t] ty #[.slice (some ⟨b,0,none⟩) n cap,.slice (some a') m cp]).run P w= .ok (.slice (some ⟨b,0,none⟩) (n+m) cap) (w.setRow b (eJ cs.toList (n*i.size) news).toArray):=by
 have hf:=run_firstCells_some (P:=P) w i.size m a' m cp news hl hn
 have hm:(n+m)*i.size≤cap*i.size:=kC _ hr
 rw[eD]at hm
 have xd:=run_storeCells_at (P:=P) b (n*i.size) te news 0 cs w hg ω h1
 simp only[mC]at xd
 simp[Builtin.append_,run_underlying ht,Go.sizeOf,typeInfo,hi,Builtin.lenOf,hr,hf,Addr.add_lit,xd,eJ]
theorem iU{args:Array Operand}{t:TypeId}{x y:Operand}{v:Value}{w':World}(ho:o.op= .call {callee:= .builtin .append,args,argTypes:= #[t,t]})(ha:args.toList=[x,y])
  (h:(Builtin.append_ #[t,t] o.type #[a.eval x,a.eval y]).run P w= .ok v w'):(execOp a.eval o).run P w= .ok (.value v) w':=by
 obtain⟨cs,hr⟩:=oh (P:=P) (ρ:=a.eval) ho (w:=w)
 rw[hr]
 have:args.map a.eval= #[a.eval x,a.eval y]:=by apply g8;simp[ha]
 rw[this]
 simp[builtin,h]
theorem GR{H:Nat→Option br}(hm:Mem c H w M ν){id:Nat}(bk:H id=none){t ty:TypeId}{e':TypeId}{e:Ty}(hu:P.underlying t=some (.slice e'))(hle:kZ P e e')
  {xs ys:List e.den} {olds news:List Value} {base:Option Addr} {cap cp:Nat} {a':Addr} (YA:base=none→xs=[]∧cap=0)
  (xf:olds.length=xs.length*e.size) (hro:pO w M e olds xs) (ho: ∀b,base=some b→ ∀j u,olds[j]? =some u→w.cell? (b.add j)=some u)
  (hln:news.length=ys.length*e.size) (hrn:pO w M e news ys) (hn: ∀j u,news[j]? =some u→w.cell? (a'.add j)=some u)
  (hg:cap<xs.length+ys.length) (hs:xs.length+ys.length<Bd):
  ∃v w' M' ν',(Builtin.append_ #[t,t] ty #[.slice base xs.length cap,.slice (some a') ys.length cp]).run P w= .ok v w'∧Tr c H w M ν (cq H id (some (.own e (xs++ys)))) w' M' ν'∧ν' id=v:=by
 obtain⟨i,hi,q6,hz,hby⟩:=hle.base
 have hzs:(ck e e.cI).cells.size=e.size:=by rw[←bm,fF,mG]
 have h63:xs.length+ys.length≤maxLen:=by simp only[Bd,maxLen]at hs ⊢;omega
 have GU:(xs.length+ys.length)*i.bytes≤140737488355328:=by
  have:(xs.length+ys.length)*i.bytes≤68719476736*2048:=uO (by simp only[Bd]at hs;omega) hby
  omega
 have dG: ∃ng rest,(Builtin.append_ #[t,t] ty #[.slice base xs.length cap,.slice (some a') ys.length cp]).run P w= .ok (.slice (some ⟨w.heap.size,0,none⟩) (xs.length+ys.length) ng) (w.drew.alloc (.cells (olds++news++rest).toArray e'))∧
   xs.length+ys.length≤ng∧ng≤maxLen∧rest.length=(ng-(xs.length+ys.length))*e.size:=by
  refine⟨grownCap w (xs.length+ys.length) cap e',(Builtin.zeroCells (ck e e.cI).cells (grownCap w (xs.length+ys.length) cap e'-(xs.length+ys.length))).toList,?_,grownCap_ge _ _ _ _,grownCap_le_maxLen _ _ _ _ h63,?_⟩
  ·cases base with
   |none=>
    obtain⟨rfl,rfl⟩:=YA rfl
    have ho0:olds=[]:=vz (by rw[xf];simp)
    subst ho0
    have:=run_append_nil (P:=P) w t ty e' i _ hu hi hz a' ys.length cp news (by rw[hln,q6]) hn (by simpa using hg) (by simp only[Bd]at hs;omega) (by simp at GU;omega)
    simp only[ca,gr,cB]
    rw[this]
    congr 2
    apply e7 (λz=>Obj.cells z e' (0,0))
    apply g8;simp
   |some b=>
    have:=run_append_grow (P:=P) w t ty e' i _ hu hi hz b xs.length cap olds (by rw[xf,q6]) (ho b rfl) a' ys.length cp news (by rw[hln,q6]) hn hg (by simp only[Bd]at hs;omega) (growslice_fits hg GU)
    rw[this]
    congr 2
    apply e7 (λz=>Obj.cells z e' (0,0))
    apply g8;simp
  ·rw[bm,size_zeroCells,hzs]
 obtain⟨ng,rest,dG,EV,hc2,apB⟩:=dG
 have hlen:(xs++ys).length=xs.length+ys.length:=aS
 have hd:=Tr.drew hm
 have hon:(olds++news).length=(xs++ys).length*e.size:=by rw[aS,xf,hln,hlen,eD]
 have Sr:=Tr.row hd.mem bk e' (e:=e) (cs:=(olds++news++rest).toArray) (l:=xs++ys) (cap:=ng) (by rw[hlen];exact EV) hc2
  (by rw[jg,aS,hon,apB,hlen,←eD];congr 1;omega)
  (pO.more ((hro.append xf hrn).cg hd.cg) (by rw[hon];exact aH _))
 refine⟨_,_,_,_,dG,hd.trans Sr,?_⟩
 rw[←hlen];simp[updν]
theorem VJ(hE:EnvTy P E)(hc:Core c σ a.tmps w M ν){args:Array Operand}{ts:Array TypeId}{t t':TypeId}{x y:Operand}(ho:o.op= .call {callee:= .builtin .append,args,argTypes:=ts})(ha:args.toList=[x,y])(hts:ts.toList=[t,t']){K:g7 α}{e:Ty}
  (ht:E.ty t=some (.slice e)) {id:Nat} (h:cond (Nat.beq t t') (sv σ.H id (.own e []) (N3 id e (σ.ρ x) (σ.ρ y) σ.H K)) none=some r) (hn:fM c σ a o w M ν K r next):o.wp P a w next Q:=by
 obtain⟨htt,h1⟩:=cD h
 clear h
 have htt:=fA htt
 subst htt
 obtain⟨bk,h⟩:=mE h1
 clear h1
 have avG:ts= #[t,t]:=by apply g8;simpa using hts
 subst avG
 obtain⟨e',hu,hle⟩:=(hE.ty t _ ht).slice
 obtain⟨i,hi,q6,hz,hby⟩:=hle.base
 have LK:=hc.ev x
 unfold N3 at h
 obtain⟨ys,rd,h,hS⟩:=DQ hc.mem (hc.ev y) h
 have akA:(ys=[]∧ ∃a' cp,a.eval y= .slice a' 0 cp)∨(ys≠[]∧ ∃a' cp news,a.eval y= .slice (some a') ys.length cp∧news.length=ys.length*e.size∧(∀j u,news[j]? =some u→w.cell? (a'.add j)=some u)∧pO w M e news ys∧ ∀u∈news,u.oneCell'=true):=by
  by_cases hy:ys=[]
  ·left
   obtain⟨a',cp,hv,_⟩:=hS
   exact⟨hy,a',cp,by rw[hv,hy];rfl⟩
  ·right
   obtain⟨b,off,cp,news,hv,hl,pN,kE,h1⟩:=hS.cells hy
   exact⟨hy,⟨b,off,none⟩,cp,news,hv,hl,λj u hj=>by rw[Addr.add_lit];exact pN j u hj,kE,h1⟩
 split at h
 ·
  rename_i hx
  rw[hx]at LK
  obtain⟨ad,LK⟩:=VR.emp.1 LK
  obtain⟨Ud,h⟩:=cD h
  rw[Gu]at Ud
  have Ud:=bA Ud
  rcases akA with⟨rfl,a',cp,Bt⟩|⟨hy,a',cp,news,Bt,hl,pN,kE,h1⟩
  ·refine aZ (iU ho ha (by rw[LK,Bt];exact tQ hu hi ad 0 0 (aH _) a' cp)) (hn _ _ _ _ _ _ _ h (Tr.nothing hc.mem bk e ad) ?_)
   simp only[VR]
   exact⟨by show cq _ id _ id≠none;rw[ay];simp,by simp[updν]⟩
  ·have Om:0<ys.length:=p3.2 hy
   obtain⟨v,w',M',ν',dG,gF,hv⟩:=GR (P:=P) (ty:=o.type) hc.mem bk hu hle (xs:=[]) (ys:=ys) (olds:=[]) (news:=news) (base:=ad) (cap:=0) (cp:=cp) (a':=a') (λ_=>⟨rfl,rfl⟩) (by simp) (λi hi=>absurd hi (by simp)) (λ_ _ j u hj=>by simp at hj)
    hl kE pN (by simpa using Om) (by simpa using Ud)
   refine aZ (iU ho ha (by rw[LK,Bt];exact dG)) (hn _ _ _ _ _ _ _ h gF ?_)
   simp only[VR]
   exact⟨by show cq _ id _ id≠none;rw[ay];simp,hv.symm⟩
 ·
  rename_i j hx
  rw[hx]at LK
  simp only[VR]at LK
  obtain⟨_,LK⟩:=LK
  split at h
  ·rename_i e1 l hj
   obtain⟨e2,h⟩:=bz h
   cases e2
   obtain⟨Ud,h⟩:=cD h
   rw[Gu]at Ud
   have Ud:l.length+ys.length<Bd:=bA Ud
   have kQ:id≠j:=λe=>by rw[e,hj]at bk;cases bk
   have qJ:cq σ.H j (some .gone) id=none:=by rw[az _ _ kQ];exact bk
   have R9:=Tr.gone hc.mem j
   have mi:=hc.mem.ke j _ hj
   simp only[ER]at mi
   rcases mi with⟨rfl,ad,hjv⟩|⟨b,cs,te,cap,hjv,hg,hM,T4,hl,Fy,hs,hr⟩
   ·rw[hjv]at LK
    rcases akA with⟨rfl,a',cp,Bt⟩|⟨hy,a',cp,news,Bt,hl,pN,kE,h1⟩
    ·refine aZ (iU ho ha (by rw[LK,Bt];exact tQ hu hi ad 0 0 (aH _) a' cp)) (hn _ _ _ _ _ _ _ h (R9.trans (Tr.nothing R9.mem qJ e ad)) ?_)
     simp only[VR]
     exact⟨by show cq _ id _ id≠none;rw[ay];simp,by simp[updν]⟩
    ·have Om:0<ys.length:=p3.2 hy
     obtain⟨v,w',M',ν',dG,gF,hv⟩:=GR (P:=P) (ty:=o.type) R9.mem qJ hu hle (xs:=[]) (ys:=ys) (olds:=[]) (news:=news) (base:=ad) (cap:=0) (cp:=cp) (a':=a') (λ_=>⟨rfl,rfl⟩) (by simp) (λi hi=>absurd hi (by simp)) (λ_ _ j u hj=>by simp at hj)
      hl kE pN (by simpa using Om) (by simpa using Ud)
     refine aZ (iU ho ha (by rw[LK,Bt];exact dG)) (hn _ _ _ _ _ _ _ h (R9.trans gF) ?_)
     simp only[VR]
     exact⟨by show cq _ id _ id≠none;rw[ay];simp,hv.symm⟩
   ·rw[hjv]at LK
    have FA:cs.toList.length=cap*e.size:=by rw[bm,hs]
    have Jg:l.length*e.size≤cap*e.size:=kC _ hl
    rcases akA with⟨rfl,a',cp,Bt⟩|⟨hy,a',cp,news,Bt,hln,pN,kE,h1⟩
    ·refine aZ (iU ho ha (by rw[LK,Bt];exact tQ hu hi _ _ cap hl a' cp)) (hn _ _ _ _ _ M (updν ν id (ν j)) h ?_ ?_)
     ·refine Tr.rename hc.mem hj bk (.inr rfl) ?_
      rw[cy]
      exact hc.mem.ke j _ hj
     ·simp only[VR]
      exact⟨by show cq _ id _ id≠none;rw[ay];simp,by simp[updν,hjv]⟩
    ·by_cases BB:l.length+ys.length≤cap
     ·have hmul:(l.length+ys.length)*e.size≤cap*e.size:=kC _ BB
      rw[eD]at hmul
      have dG:=Ol (P:=P) (ty:=o.type) hu hi (w:=w) (b:=b) (n:=l.length) (cap:=cap) (m:=ys.length) (cp:=cp) (a':=a') (news:=news) (cs:=cs) hg (by rw[hs,q6]) (by rw[hln,q6]) pN h1 BB
      rw[q6]at dG
      have acg:eJ cs.toList (l.length*e.size) news=(cs.toList.take (l.length*e.size)++news)++cs.toList.drop (l.length*e.size+news.length):=rfl
      have hold:pO w M e (cs.toList.take (l.length*e.size)) l:=pO.take hr (aH _)
      have htl:(cs.toList.take (l.length*e.size)).length=l.length*e.size:=by rw[cf];omega
      have ai7:pO w M e (eJ cs.toList (l.length*e.size) news) (l++ys):=by
       rw[acg]
       refine pO.more (hold.append htl kE) ?_
       rw[aS,aS,htl,hln,eD];exact aH _
      have On:(eJ cs.toList (l.length*e.size) news).length=cap*e.size:=by rw[eF ω];exact FA
      have acs:Tr c σ.H w M ν (cq σ.H j (some (.own e l))) (w.setRow b (eJ cs.toList (l.length*e.size) news).toArray) M ν:=by
       refine Tr.write (e':= .own e l) hc.mem hj trivial trivial (.refl _) (by rw[hjv];simp[fx];omega) hg λNq hk xO=> ?_
       simp only[ER]
       refine .inr ⟨b,_,te,cap,hjv,setRow_heap w b cs _ te _ hg,xO,T4,hl,Fy,by rw[jg];exact On,λk Bu=> ?_⟩
       have:=(ai7 k (by rw[aS];omega)).cg hk
       rw[AN Bu]at this
       exact this
      rw[CF hj]at acs
      have xN:Tr c σ.H (w.setRow b (eJ cs.toList (l.length*e.size) news).toArray) M ν (cq (cq σ.H j (some .gone)) id (some (.own e (l++ys)))) (w.setRow b (eJ cs.toList (l.length*e.size) news).toArray) M (updν ν id (.slice (some ⟨b,0,none⟩) (l++ys).length cap)):=by
       refine Tr.rename acs.mem hj bk (.inr (by rw[hjv];simp[fx])) ?_
       simp only[ER]
       refine .inr ⟨b,_,te,cap,rfl,setRow_heap w b cs _ te _ hg,hM,T4,by rw[aS];exact BB,Fy,by rw[jg];exact On,(ai7.cg acs.cg)⟩
      refine aZ (iU ho ha (by rw[LK,Bt];exact dG)) (hn _ _ _ _ _ _ _ h (acs.trans xN) ?_)
      simp only[VR]
      exact⟨by show cq _ id _ id≠none;rw[ay];simp,by simp[updν]⟩
     ·obtain⟨v,w',M',ν',dG,gF,hv⟩:=GR (P:=P) (ty:=o.type) R9.mem qJ hu hle (xs:=l) (ys:=ys) (olds:=cs.toList.take (l.length*e.size)) (news:=news) (base:=some ⟨b,0,none⟩) (cap:=cap) (cp:=cp) (a':=a') (λh=>by cases h)
       (by rw[cf];omega) (pO.take hr (aH _)) (λb' eY k u hk=>by
        cases eY
        rw[Addr.add_lit,cell_of hg]
        rw[mY]at hk
        split at hk
        ·rw[←iH];simpa using hk
        ·cases hk)
       hln kE pN ω Ud
      refine aZ (iU ho ha (by rw[LK,Bt];exact dG)) (hn _ _ _ _ _ _ _ h (R9.trans gF) ?_)
      simp only[VR]
      exact⟨by show cq _ id _ id≠none;rw[ay];simp,hv.symm⟩
  ·cases h
 ·cases h
theorem pO.over{e:Ty}{cs zs:List Value}{l1 l2:List e.den}{n:Nat}(h1:pO w M e cs l1)(h2:pO w M e zs l2)(hn:n≤l1.length)(hc:l1.length*e.size≤cs.length)(hz:zs.length=l2.length*e.size)(hs:n*e.size+zs.length≤cs.length):
  pO w M e (eJ cs (n*e.size) zs) (List.take n l1++l2):=by
 intro i hi
 rw[aS,cf,iq hn]at hi
 by_cases eV:i<n
 ·have:=ew (s:=e.size) eV
  rw[Fw (.inl this) hs,AN (by rw[cf];omega),AZ]
  exact h1 i ω
 ·have h3:=h2 (i-n) ω
  have Ue:i-n<l2.length:=ω
  have h4:=ew (s:=e.size) Ue
  have h5:i*e.size=n*e.size+(i-n)*e.size:=by rw[←eD];congr 1;omega
  have h6:((eJ cs (n*e.size) zs).drop (i*e.size)).take e.size=(zs.drop ((i-n)*e.size)).take e.size:=by
   unfold eJ
   have hl:(cs.take (n*e.size)).length=n*e.size:=by rw[cf];omega
   rw[h5,bD,←iJ,mA hl,xi ω,yS (by rw[dY];omega)]
  rw[h6,F5 (by rw[cf];omega)]
  simp only[cf,iq hn]
  exact h3
theorem BC{args:Array Operand}{t:TypeId}{x:Operand}{v:Value}{w':World}(ho:o.op= .call {callee:= .builtin .clear,args,argTypes:= #[t]})(ha:args.toList=[x])
  (h:(Builtin.clear_ #[t] o.type #[a.eval x]).run P w= .ok v w'):(execOp a.eval o).run P w= .ok (.value v) w':=by
 obtain⟨cs,hr⟩:=oh (P:=P) (ρ:=a.eval) ho (w:=w)
 rw[hr]
 have:args.map a.eval= #[a.eval x]:=by apply g8;simp[ha]
 rw[this]
 simp[builtin,h]
theorem YB(hE:EnvTy P E)(hc:Core c σ a.tmps w M ν){args:Array Operand}{ts:Array TypeId}{t:TypeId}{x:Operand}(ho:o.op= .call {callee:= .builtin .clear,args,argTypes:=ts})(ha:args.toList=[x])(hts:ts.toList=[t]){K:g7 α}{e:Ty}
  (ht:E.ty t=some (.slice e)) (h:zV e (σ.ρ x) σ.H K=some r) (hn:fM c σ a o w M ν K r next):o.wp P a w next Q:=by
 have hts:ts= #[t]:=by apply g8;simp[hts]
 subst hts
 have hv:=hc.ev x
 unfold zV at h
 split at h
 ·rename_i id e1 lo hx
  obtain⟨e2,h0⟩:=dW h
  clear h
  subst e2
  rw[hx]at hv
  simp only[VR]at hv
  obtain⟨aCZ,ad,n,cap,hnu,hv⟩:=hv
  split at h0
  ·rename_i e3 l bk
   obtain⟨e4,h⟩:=bz h0
   clear h0
   cases e4
   obtain⟨e',hu,hle⟩:=(hE.ty t _ ht).slice
   obtain⟨i,hi,hs,hz,_⟩:=hle.base
   have mi:=hc.mem.ke id _ bk
   simp only[ER]at mi
   rcases oc lo l.length with eV|LO
   ·rcases mi with⟨rfl,_⟩|⟨b,cs,te,ng,hb,hg,hM,T4,hl,Fy,q6,hr⟩
    ·simp at eV
    ·rw[hnu]at hb
     simp only[Value.slice.injEq]at hb
     obtain⟨rfl,rfl,rfl⟩:=hb
     rw[ah ω]at hv
     have hzs:(ck e1 e1.cI).cells.size=e1.size:=by rw[←bm,fF,mG]
     have hzc:Builtin.zeroCells (ck e1 e1.cI).cells (l.length-lo)=madeCells (ck e1 e1.cI).cells ((l.length-lo)*e1.size):=by
      unfold Builtin.zeroCells madeCells;rw[hzs]
     have hzl:(madeCells (ck e1 e1.cI).cells ((l.length-lo)*e1.size)).toList.length=(l.length-lo)*e1.size:=by rw[bm,size_madeCells]
     have CG: ∀u∈(madeCells (ck e1 e1.cI).cells ((l.length-lo)*e1.size)).toList,u.oneCell'=true:=by
      intro u hu
      have hm:u∈(ck e1 e1.cI).cells.toList:=by
       simp only[madeCells,Array.toList_map,cV]at hu
       obtain⟨j,hj,rfl⟩:=hu
       rw[Array.mem_toList_iff,Array.mem_range]at hj
       have h0:0<e1.size:=by
        rcases Nat.eq_zero_or_pos e1.size with h0|h0
        ·rw[h0]at hj;simp at hj
        ·exact h0
       have Bq:j%(ck e1 e1.cI).cells.size<(ck e1 e1.cI).cells.size:=Nat.mod_lt _ ω
       rw[getElem!_pos (ck e1 e1.cI).cells _ Bq]
       exact Array.getElem_mem_toList Bq
      rw[fF]at hm
      exact(Rd.zero w M e1).lM u hm
     have GU:lo*e1.size+(l.length-lo)*e1.size≤cs.size:=by
      rw[q6,←eD]
      exact kC _ ω
     have xd:=run_storeCells_at (P:=P) b (lo*e1.size) te (madeCells (ck e1 e1.cI).cells ((l.length-lo)*e1.size)).toList 0 cs w hg (by rw[hzl];omega) CG
     simp only[mC]at xd
     obtain⟨m,hm⟩: ∃m,l.length-lo=m+1:=⟨l.length-lo-1,ω⟩
     have dG:(Builtin.clear_ #[t] o.type #[a.eval x]).run P w= .ok (.tuple #[]) (w.setRow b (eJ cs.toList (lo*e1.size) (madeCells (ck e1 e1.cI).cells ((l.length-lo)*e1.size)).toList).toArray):=by
      rw[hv]
      rw[hm]at xd hzc ⊢
      simp[Builtin.clear_,run_underlying hu,zeroValue,typeInfo,hi,hz,Addr.add_lit,hzc,xd,eJ]
     have gF:=Tr.write (e':= .own e1 (List.take lo l++List.replicate (ℓ l-lo) e1.zero)) (new:=(eJ cs.toList (lo*e1.size) (madeCells (ck e1 e1.cI).cells ((l.length-lo)*e1.size)).toList).toArray) hc.mem bk trivial trivial ⟨rfl,by simp;omega⟩ (by rw[hnu];simp[fx];omega) hg (λNq hk xO=>by
      simp only[ER]
      refine .inr ⟨b,_,te,cap,?_,setRow_heap w b cs _ te _ hg,xO,T4,by simp;omega,Fy,?_,?_⟩
      ·rw[hnu];simp;omega
      ·rw[jg,eF (by rw[hzl,bm];exact GU),bm,q6]
      ·have h1:pO w M e1 cs.toList l:=hr
       have h2:=pO.made w M e1 (n:=(l.length-lo)*e1.size) (l:=l.length-lo) (aH _)
       have h3:=pO.over h1 h2 (n:=lo) ω (cA (kC _ hl) (Nat.le_of_eq (by rw[bm,q6]))) (by rw[hzl,c7]) (by rw[hzl,bm];exact GU)
       exact h3.cg hk)
     exact aZ (BC ho ha dG) (hn _ _ _ _ _ _ _ h gF (by simp[VR]))
   ·
    have Jb:List.take lo l++List.replicate (ℓ l-lo) e1.zero=l:=by
     rw[iG LO,show l.length-lo=0 from by omega];simp
    have hn0:n=l.length:=by
     obtain⟨ad',ng,hh⟩:=ER.GQ (hc.mem.ke id _ bk)
     rw[hnu]at hh;simp only[Value.slice.injEq]at hh;exact hh.2.1
    have dG:(Builtin.clear_ #[t] o.type #[a.eval x]).run P w= .ok (.tuple #[]) w:=by
     rw[hv,show n-lo=0 from by omega]
     cases(if cap=lo then ad else ad.map (·.add (lo*e1.size)))<;>simp[Builtin.clear_,run_underlying hu]
    have hH:cq σ.H id (some (.own e1 l))=σ.H:=by
     funext j
     by_cases hj:j=id
     ·subst hj;rw[ay,bk]
     ·rw[az _ _ hj]
    refine aZ (BC ho ha dG) (hn _ _ _ _ _ M ν h ?_ (by simp[VR]))
    show Tr c σ.H w M ν (cq σ.H id (some (.own e1 (List.take lo l++List.replicate (ℓ l-lo) e1.zero)))) w M ν
    rw[Jb,hH]
    exact .refl hc.mem
  ·cases h0
 ·cases h
end VM
end
