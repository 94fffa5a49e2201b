/- A part of the proof of BookTurned of layer 18: a machine that reads a function of the program as an equation between values. -/
import Derived.Test.YthkjjlcblhbifaaGreatVm2
import Derived.Great.FillDense
set_option linter.all false
open List renaming length→ℓ
section
namespace VM
open Go
variable{P:Program}{E:Env}{o:Oper}{a:Act}{w:World}{M:Nat→Prop}{ν:Nat→Value}{σ:St}{c:Ctx}{α:Type}{r:α}{next:Act→World→Prop}{Q:Exit→Act→World→Prop}
theorem VE{b:BinOp}{k k':IntKind}{x y:Int}{t:TypeId}{K:bG→Option α}(h:shK b k x y K=some r):
  ∃z,K (.val (.int k) z)=some r∧(binOp b t (.int k x) (.int k' y)).run P w= .ok (.int k z) w:=by
 unfold shK at h
 split at h
 ·obtain⟨h0,h⟩:=nE h
  rw[qv]at h0
  have h0: ¬y<0:=by simpa using h0
  refine⟨_,h,?_⟩
  rw[EY,Yb]
  simp[binOp,Op.shift,h0]
 ·obtain⟨h0,h⟩:=nE h
  rw[qv]at h0
  have h0: ¬y<0:=by simpa using h0
  refine⟨_,h,?_⟩
  rw[Sc]
  simp[binOp,Op.shift,h0]
 ·cases h
theorem LV{b:BinOp}{k:IntKind}{x y:Int}{t:TypeId}{K:bG→Option α}(h:vx b k x y K=some r):
  ∃v u,K v=some r∧(binOp b t (.int k x) (.int k y)).run P w= .ok u w∧ ∀H,VR w M H ν v u:=by
 unfold vx at h
 split at h
 ·exact⟨_,_,h,by simp[binOp,Op.intArith,EY],λH=> .mkInt _ _⟩
 ·exact⟨_,_,h,by simp[binOp,Op.intArith,EY],λH=> .mkInt _ _⟩
 ·exact⟨_,_,h,by simp[binOp,Op.intArith,EY],λH=> .mkInt _ _⟩
 ·obtain⟨h0,h⟩:=nE h
  rw[jO]at h0
  have h0: ¬y=0:=by simpa using h0
  exact⟨_,_,h,by simp[binOp,Op.intDiv,EY,Ya,h0],λH=> .mkInt _ _⟩
 ·obtain⟨h0,h⟩:=nE h
  rw[jO]at h0
  have h0: ¬y=0:=by simpa using h0
  exact⟨_,_,h,by simp[binOp,Op.intDiv,aj4,h0],λH=> .mkInt _ _⟩
 ·exact⟨_,_,h,by simp[binOp,Op.intBits,vu],λH=> .mkInt _ _⟩
 ·exact⟨_,_,h,by simp[binOp,Op.intBits,vu],λH=> .mkInt _ _⟩
 ·exact⟨_,_,h,by simp[binOp,Op.intBits,vu],λH=> .mkInt _ _⟩
 ·exact⟨_,_,h,by simp[binOp,Op.intBits,vu],λH=> .mkInt _ _⟩
 ·exact⟨_,.bool (decide (x=y)),h,by simp[binOp,Op.intCmp];rfl,λH=>by rw[jO];exact .vA _⟩
 ·exact⟨_,.bool (!decide (x=y)),h,by simp[binOp,Op.intCmp];rfl,λH=>by rw[jO];exact .vA _⟩
 ·exact⟨_,_,h,by simp[binOp,Op.intCmp,qv],λH=> .vA _⟩
 ·exact⟨_,_,h,by simp[binOp,Op.intCmp,m9],λH=> .vA _⟩
 ·exact⟨_,_,h,by simp[binOp,Op.intCmp,qv],λH=> .vA _⟩
 ·exact⟨_,_,h,by simp[binOp,Op.intCmp,m9],λH=> .vA _⟩
 ·cases h
theorem VF{t:Option Ty}{op:BinOp}{τ:Ty}{x:τ.den}{υ:Ty}{y:υ.den}{K:bG→Option α}(h:GH t op τ x υ y K=some r):
  (∃(k k':IntKind) (m n:Int),bG.val τ x= .val (.int k) m∧bG.val υ y= .val (.int k') n∧(cond (ab2 op) (shK op k m n K) (if k=k' then vx op k m n K else none))=some r)∨
  (∃z:τ.den,bG.val υ y= .val τ z∧t=some τ∧τ.comparable=true∧((op= .eql∧K (.val .bool (oX τ x z))=some r)∨(op= .neq∧K (.val .bool (!oX τ x z))=some r))):=by
 unfold GH at h
 split at h
 ·exact .inl ⟨_,_,_,_,rfl,rfl,h⟩
 ·right
  split at h
  ·cases h
  ·obtain⟨e,h1⟩:=dX h
   clear h
   subst e
   obtain⟨hc,h⟩:=cG h1
   clear h1
   split at h
   ·obtain⟨e,h1⟩:=bA h
    subst e
    exact⟨_,rfl,rfl,hc,.inl ⟨rfl,h1⟩⟩
   ·obtain⟨e,h1⟩:=bA h
    subst e
    exact⟨_,rfl,rfl,hc,.inr ⟨rfl,h1⟩⟩
   ·cases h
theorem DX{t:TypeId}(hu:P.underlying t=some .bool)(x y:Bool)(w:World):(Op.equal t (.bool x) (.bool y)).run P w= .ok (x==y) w:=by
 unfold Op.equal
 obtain⟨n,hn⟩: ∃n,Op.maxDepth=n+1:=⟨9999,rfl⟩
 rw[hn]
 simp[Op.equalIn,run_underlying hu]
theorem run_eql_bool{t:TypeId}(hu:P.underlying t=some .bool)(x y:Bool):(binOp .eql t (.bool x) (.bool y)).run P w= .ok (.bool (x==y)) w:=by
 simp[binOp,DX hu]
theorem run_neq_bool{t:TypeId}(hu:P.underlying t=some .bool)(x y:Bool):(binOp .neq t (.bool x) (.bool y)).run P w= .ok (.bool (!(x==y))) w:=by
 simp[binOp,DX hu]
theorem ao9(x y:ByteArray):(x.toList==y.toList)=decide (x.toList=y.toList):=by
 rw[pV];simp
theorem Ot{t:TypeId}(x y:ByteArray):(binOp .eql t (.string x) (.string y)).run P w= .ok (.bool (decide (x.toList=y.toList))) w:=by
 simp[binOp,Op.stringOp,ao9]
theorem Ou{t:TypeId}(x y:ByteArray):(binOp .neq t (.string x) (.string y)).run P w= .ok (.bool (!decide (x.toList=y.toList))) w:=by
 simp[binOp,Op.stringOp,ao9]
theorem Ym(hE:EnvTy P E)(hc:Core c σ a.tmps w M ν){b:BinOp}{t t':TypeId}{x y:Operand}(ho:o.op= .binOp b t x y t'){K:gS α}
  (h:N9 (σ.ρ x) (fun τ x=>N9 (σ.ρ y) fun υ y=>GH (E.ty t) b τ x υ y λv=>K v [] [])=some r) (hn:fJ c σ a o w M ν K r next):o.wp P a w next Q:=by
 have hx:=hc.ev x
 have hy:=hc.ev y
 unfold N9 at h
 split at h
 ·rename_i τ x' hxe
  split at h
  ·rename_i υ y' hye
   rw[hxe]at hx;rw[hye]at hy
   rcases VF h with⟨k,k',m,n,e1,e2,h1⟩|⟨z,e2,ht,FI,h1⟩
   ·rw[e1]at hx;rw[e2]at hy
    have hx:=hx.int
    have hy:=hy.int
    cases hs:ab2 b
    ·rw[hs]at h1
     replace h1:(if k=k' then vx b k m n (λv=>K v [] [])else none)=some r:=h1
     split at h1
     ·rename_i hk;subst hk
      obtain⟨v,u,hK,dH,hVR⟩:=LV (P:=P) (w:=w) (M:=M) (ν:=ν) (t:=t) h1
      exact bc (qZ ho (by rw[hx,hy];exact qz w) (by rw[hx,hy];exact dH)) (hn _ [] [] _ _ _ _ hK (.refl hc.mem) (hVR _))
     ·cases h1
    ·rw[hs]at h1
     replace h1:shK b k m n (λv=>K v [] [])=some r:=h1
     obtain⟨z,hK,dH⟩:=VE (P:=P) (w:=w) (k':=k') (t:=t) h1
     exact bc (qZ ho (by rw[hx,hy];exact qz w) (by rw[hx,hy];exact dH)) (hn _ [] [] _ _ _ _ hK (.refl hc.mem) (.mkInt _ _))
   ·rw[e2]at hy
    have key:(eqGuard b t x y (a.eval x) (a.eval y)).run P w= .ok () w∧(binOp .eql t (a.eval x) (a.eval y)).run P w= .ok (.bool (oX τ x' z)) w∧(binOp .neq t (a.eval x) (a.eval y)).run P w= .ok (.bool (!oX τ x' z)) w:=by
     by_cases GN:τ.isAgg=true
     ·simp only[VR]at hx hy
      exact hE.eq t τ ht FI GN w M _ _ _ _ b x y hx hy
     ·have hl:=hE.ty t τ ht
      cases τ with
      |int k=>
       rw[hx.int,hy.int]
       refine⟨qz w,?_,?_⟩
       ·simp[binOp,Op.intCmp,oX,jO];rfl
       ·simp[binOp,Op.intCmp,oX,jO];rfl
      |bool=>rw[hx.bool,hy.bool];exact⟨CG w,run_eql_bool hl.bool _ _,run_neq_bool hl.bool _ _⟩
      |str=>rw[hx.str,hy.str];exact⟨E1 w,by rw[Ot];simp[oX,GG],by rw[Ou];simp[oX,GG]⟩
      |slice e=>simp[Ty.comparable]at FI
      |unit=>simp[Ty.isAgg]at GN
      |pair _ _=>simp[Ty.isAgg]at GN
      |arr _ _=>simp[Ty.isAgg]at GN
    obtain⟨hg,h2,h3⟩:=key
    rcases h1 with⟨rfl,hK⟩|⟨rfl,hK⟩
    ·exact bc (qZ ho hg h2) (hn _ [] [] _ _ _ _ hK (.refl hc.mem) (.vA _))
    ·exact bc (qZ ho hg h3) (hn _ [] [] _ _ _ _ hK (.refl hc.mem) (.vA _))
  ·cases h
 ·cases h
theorem ach(hc:Core c σ a.tmps w M ν){u:UnOp}{t:TypeId}{x:Operand}(ho:o.op= .unOp u t x){K:gS α}
  (h:Vr u (σ.ρ x) (λv=>K v [] [])=some r) (hn:fJ c σ a o w M ν K r next):o.wp P a w next Q:=by
 have hx:=hc.ev x
 unfold Vr at h
 split at h
 ·rename_i k n hxe
  rw[hxe]at hx
  refine bc (xF ho (v:= .int k (k.wrap (0-n))) ?_) (hn _ [] [] _ _ _ _ h (.refl hc.mem) (by rw[EY];exact .mkInt _ _))
  rw[hx.int];simp[Op.unary,Op.intArith]
 ·rename_i k n hxe
  rw[hxe]at hx
  refine bc (xF ho (v:= .int k (sb .xor k (if k.signed then-1 else k.max) n)) ?_) (hn _ [] [] _ _ _ _ h (.refl hc.mem) (.mkInt _ _))
  rw[hx.int,vu];simp[Op.unary,Op.intBits]
 ·rename_i b hxe
  rw[hxe]at hx
  refine bc (xF ho (v:= .bool (!b)) ?_) (hn _ [] [] _ _ _ _ h (.refl hc.mem) (.vA _))
  rw[hx.bool];simp[Op.unary]
 ·cases h
theorem o8{args:Array Operand}{ts:Array TypeId}{t:TypeId}{x:Operand}{n:Nat}(ho:o.op= .call {callee:= .builtin .len,args,argTypes:=ts})(ha:args.toList=[x])(_ht:ts.toList.head?=some t)
  (hl: ∀ty,(Builtin.len_ ts ty #[a.eval x]).run P w= .ok (goInt n) w):(execOp a.eval o).run P w= .ok (.value (.int .i64 n)) w:=by
 obtain⟨cs,hr⟩:=om (P:=P) (ρ:=a.eval) ho (w:=w)
 rw[hr]
 have:args.map a.eval= #[a.eval x]:=by apply ia;simp[ha]
 rw[this]
 simp[builtin,hl,goInt]
theorem aci{ts:Array TypeId}{t ty:TypeId}(ht:ts[0]? =some t)(hu:P.underlying t=some .string)(s:ByteArray):(Builtin.len_ ts ty #[.string s]).run P w= .ok (goInt s.size) w:=by
 simp[Builtin.len_,ht,run_underlying hu]
theorem acj{ts:Array TypeId}{t ty e:TypeId}{n:Nat}(ht:ts[0]? =some t)(hu:P.underlying t=some (.array n e))(v:Value):(Builtin.len_ ts ty #[v]).run P w= .ok (goInt n) w:=by
 simp[Builtin.len_,ht,run_underlying hu]
theorem yQ{ts:Array TypeId}{t ty e:TypeId}(ht:ts[0]? =some t)(hu:P.underlying t=some (.slice e))(ad:Option Addr)(n cp:Nat):(Builtin.len_ ts ty #[.slice ad n cp]).run P w= .ok (goInt n) w:=by
 simp[Builtin.len_,ht,run_underlying hu]
theorem ER.G0{e:Ty}{l:List e.den}{v:Value}(h:ER w M v (.own e l)): ∃ad cp,v= .slice ad l.length cp:=by
 simp only[ER]at h
 rcases h with⟨rfl,a,hv⟩|⟨b,cs,t,cap,hv,_⟩
 ·exact⟨a,0,hv⟩
 ·exact⟨_,cap,hv⟩
theorem ER.Yn{e:Ty}{l:List e.den}{v:Value}(h:ER w M v (.pG e l)): ∃ad cp,v= .slice ad l.length cp:=by
 simp only[ER]at h
 have h:=h.1
 simp only[Rd,fW,eL]at h
 obtain⟨a,cap,hv,_⟩:=h
 exact⟨a,cap,hv⟩
theorem ako(hE:EnvTy P E)(hc:Core c σ a.tmps w M ν){args:Array Operand}{ts:Array TypeId}{x:Operand}(ho:o.op= .call {callee:= .builtin .len,args,argTypes:=ts})(ha:args.toList=[x]){K:gS α}{τ:Ty}
  (ht:(ts.toList.head?).bind E.ty=some τ) (h:Oa τ (σ.ρ x) σ.H K=some r) (hn:fJ c σ a o w M ν K r next):o.wp P a w next Q:=by
 obtain⟨t,w8,T6⟩:=ux.1 ht
 have ht3:ts[0]? =some t:=by rw[←w8,←iH,List.head?_eq_getElem?]
 have hl:=hE.ty t τ T6
 have hv:=hc.ev x
 unfold Oa at h
 split at h
 ·rename_i e e' l hx
  obtain⟨_,hu,_⟩:=hl.slice
  rw[hx]at hv
  simp only[VR]at hv
  have hv:=V.slice.1 hv
  simp only[Rd,fW,eL]at hv
  obtain⟨ad,cap,hv,_⟩:=hv
  refine bc (o8 ho ha w8 (n:=ℓ l) λty=>by rw[hv];exact yQ ht3 hu _ _ _) (hn _ [] [] _ _ _ _ h (.refl hc.mem) (.mkInt _ _))
 ·rename_i n e n' e' l hx
  obtain⟨_,hu,_⟩:=hl.arr
  refine bc (o8 ho ha w8 (n:=n) λty=>acj ht3 hu _) (hn _ [] [] _ _ _ _ h (.refl hc.mem) (.mkInt _ _))
 ·rename_i s hx
  rw[hx]at hv
  refine bc (o8 ho ha w8 (n:=ByteArray.size s) λty=>by rw[hv.str];exact aci ht3 hl.str _) (hn _ [] [] _ _ _ _ h (.refl hc.mem) (.mkInt _ _))
 ·rename_i e hx
  obtain⟨_,hu,_⟩:=hl.slice
  rw[hx]at hv
  simp only[VR]at hv
  obtain⟨ad,hv⟩:=hv
  refine bc (o8 ho ha w8 (n:=0) λty=>by rw[hv];exact yQ ht3 hu _ _ _) (hn _ [] [] _ _ _ _ h (.refl hc.mem) (.mkInt _ _))
 ·rename_i e id hx
  obtain⟨_,hu,_⟩:=hl.slice
  rw[hx]at hv
  simp only[VR]at hv
  split at h
  ·rename_i e' l bl
   obtain⟨ad,cap,hh⟩:=(hc.mem.jQ id _ bl).G0
   refine bc (o8 ho ha w8 (n:=l.length) λty=>by rw[hv.2,hh];exact yQ ht3 hu _ _ _) (hn _ [id] [] _ _ _ _ h (.refl hc.mem) (.mkInt _ _))
  ·rename_i e' l bl
   obtain⟨ad,cap,hh⟩:=(hc.mem.jQ id _ bl).Yn
   refine bc (o8 ho ha w8 (n:=l.length) λty=>by rw[hv.2,hh];exact yQ ht3 hu _ _ _) (hn _ [id] [] _ _ _ _ h (.refl hc.mem) (.mkInt _ _))
  ·cases h
 ·cases h
theorem Ov{H:Nat→Option br}(up:Bool): ∀(xs:List bG) (x:bG) (v:Value) (vs:List Value) (K:bG→Option α),VR w M H ν x v→jP w M H ν xs vs→mmK up x xs K=some r→
  ∃x' v',K x'=some r∧(vs.foldlM (if up then Builtin.max2 else Builtin.min2) v).run P w= .ok v' w∧VR w M H ν x' v'
 |[],x,v,[],K,hx,_,h=>⟨x,v,h,by simp,hx⟩
 |[],_,_,_::_,_,_,hs,_=>by simp[jP]at hs
 |_::_,_,_,[],_,_,hs,_=>by simp[jP]at hs
 |y::xs,x,v,u::vs,K,hx,hs,h=>by
  simp only[jP]at hs
  obtain⟨hy,hs⟩:=hs
  unfold mmK at h
  obtain⟨k,m,e1,h1⟩:=oq h
  obtain⟨k',n,e2,h2⟩:=oq h1
  clear h h1
  split at h2
  ·rename_i hk
   subst hk
   rw[e1]at hx;rw[e2]at hy
   have hx:=hx.int
   have hy:=hy.int
   obtain⟨x',v',hK,dH,hV⟩:=Ov up xs _ (.int k (cond up (mx m n) (mn m n))) vs K (.mkInt _ _) hs h2
   refine⟨x',v',hK,?_,hV⟩
   rw[List.foldlM_cons,Sem.run_bind]
   have:((if up then Builtin.max2 else Builtin.min2) v u).run P w= .ok (.int k (cond up (mx m n) (mn m n))) w:=by
    rw[hx,hy]
    cases up
    ·simp[Builtin.min2,Yc]
    ·simp[Builtin.max2,aiE]
   rw[this]
   exact dH
  ·cases h2
theorem aiL(hc:Core c σ a.tmps w M ν)(up:Bool){args:Array Operand}{ts:Array TypeId}{x:Operand}{xs:List Operand}(ho:o.op= .call {callee:= .builtin (if up then .max else .min),args,argTypes:=ts})(ha:args.toList=x::xs){K:gS α}
  (h:mmK up (σ.ρ x) (xs.map σ.ρ) (λv=>K v [] [])=some r) (hn:fJ c σ a o w M ν K r next):o.wp P a w next Q:=by
 obtain⟨x',v',hK,dH,hV⟩:=Ov (P:=P) up (xs.map σ.ρ) (σ.ρ x) (a.eval x) (xs.map a.eval) _ (hc.ev x) (hc.evs xs) h
 refine bc ?_ (hn _ [] [] _ _ _ _ hK (.refl hc.mem) hV)
 obtain⟨cs,hr⟩:=om (P:=P) (ρ:=a.eval) ho (w:=w)
 rw[hr]
 have hm:(args.map a.eval).toList=a.eval x::xs.map a.eval:=by simp[ha]
 cases up
 ·simp only[jN,fI,builtin,Builtin.min_,hm,Sem.run_bind]at dH ⊢
  rw[dH];simp
 ·simp only[ib,builtin,Builtin.max_,hm,Sem.run_bind]at dH ⊢
  rw[dH];simp
theorem JG{ρ:Operand→Value}{t:TypeId}{x i:Operand}(ho:o.op= .index t x i){k:IntKind}{n:Int}{s:ByteArray}
  (hu:P.underlying t=some .string) (hx:ρ x= .string s) (hi:ρ i= .int k n) (h0:0≤n) (h1:n<(s.size:Int)):
  (execOp ρ o).run P w= .ok (.value (.int .u8 ((s.data.getD n.toNat 0).toNat:Int))) w:=by
 have eU:n.toNat<s.size:=ω
 have hs:s[n.toNat]? =some (s[n.toNat]'eU):=by simp[eU]
 have he:s[n.toNat]'eU=s.data.getD n.toNat 0:=by
  have xK:n.toNat<s.data.size:=eU
  rw[Array.getD,dif_pos xK];rfl
 simp[execOp,ho,hx,hi,Instr.index,asIntOf,run_underlying hu,h0,hs,he]
theorem Yo(hE:EnvTy P E)(hc:Core c σ a.tmps w M ν){t:TypeId}{x i:Operand}(ho:o.op= .index t x i){K:gS α}{τ:Ty}(ht:E.ty t=some τ)
  (h:xx τ (σ.ρ x) (σ.ρ i) (λv=>K v [] [])=some r) (hn:fJ c σ a o w M ν K r next):o.wp P a w next Q:=by
 unfold xx at h
 obtain⟨k,n,hi,h2⟩:=oq h
 clear h
 have h:=h2
 clear h2
 have T7:=hc.ev i
 rw[hi]at T7
 have T7:=T7.int
 have hv:=hc.ev x
 have zq:=hE.ty t τ ht
 split at h
 ·rename_i len e υ l hx
  obtain⟨e',R2,hle⟩:=zq.arr
  obtain⟨e1,h⟩:=bA h
  subst e1
  obtain⟨ke,h⟩:=cG h
  obtain⟨h0,h1⟩:=vB ke
  rw[hx]at hv
  simp only[VR]at hv
  obtain⟨cs,hu,hr⟩:=hv.agg rfl
  have ed:=hr.idx (i:=n.toNat) ω
  refine bc (JE ho R2 hle hu T7 h0 h1 ed) (hn _ [] [] _ _ _ _ h (.refl hc.mem) ?_)
  simp only[VR]
  exact V.cr ed
 ·rename_i s hx
  obtain⟨ke,h⟩:=cG h
  obtain⟨h0,h1⟩:=vB ke
  rw[hx]at hv
  refine bc (JG ho zq.str hv.str T7 h0 h1) (hn _ [] [] _ _ _ _ h (.refl hc.mem) (.mkInt _ _))
 ·cases h
theorem mF(τ:Ty):τ.cL.length=τ.size:=(Rd.zero default (λ_=>False) τ).length
theorem E3{z:Array Value}{n i s:Nat}(hz:z.size=s)(hi:i*s+s≤n):((madeCells z n).toList.drop (i*s)).take s=z.toList:=by
 apply AV
 intro j
 rw[mX]
 split
 ·rename_i hj
  rw[mY,iH,iH]
  simp only[madeCells,Array.getElem?_map]
  rw[Array.getElem?_range,ak ω]
  simp only[Option.map_some]
  have:(i*s+j)%z.size=j:=by rw[hz,GB,Nat.mul_add_mod,Nat.mod_eq_of_lt hj]
  rw[this,NR ω,getElem!_pos z j ω]
 ·rename_i hj
  rw[iH,NX ω]
theorem pI.made(w:World)(M:Nat→Prop)(e:Ty){n l:Nat}(h:l*e.size≤n):pI w M e (madeCells (cr e e.cL).cells n).toList (List.replicate l e.zero):=by
 intro i hi
 rw[c9]at hi
 have:=eE (s:=e.size) hi
 rw[E3 (by rw[←bp,fK,mF]) ω,fK,NY]
 exact Rd.zero w M e
theorem CN{ρ:Operand→Value}{t:TypeId}{x y:Operand}(ho:o.op= .makeSlice t x y){v:Value}{w':World}(h:(Instr.makeSlice t (ρ x) (ρ y)).run P w= .ok v w'):(execOp ρ o).run P w= .ok (.value v) w':=by
 simp[execOp,ho,h]
theorem LW(hE:EnvTy P E)(hc:Core c σ a.tmps w M ν){t:TypeId}{x y:Operand}(ho:o.op= .makeSlice t x y){K:gS α}{e:Ty}(ht:E.ty t=some (.slice e)){id:Nat}
  (h:wR (σ.ρ x) (λ_ l=>wR (σ.ρ y) λ_ c=>cond (kU l c)
   (se σ.H id (.own e []) (K (.ref id) [id] [(id,some (.own e (List.replicate l.toNat e.zero)))])) none)=some r) (hn:fJ c σ a o w M ν K r next):o.wp P a w next Q:=by
 obtain⟨k,l,hx,h1⟩:=oq h
 obtain⟨k',n,hy,h2⟩:=oq h1
 clear h h1
 obtain⟨hk,h⟩:=cG h2
 obtain⟨bl,h⟩:=mD h
 rw[Kd]at hk
 obtain⟨h0,h1,h3⟩:=bD hk
 simp only[Ba]at h3
 obtain⟨e',hu,hle⟩:=(hE.ty t _ ht).slice
 obtain⟨i,hi,hs,hz,hb⟩:=hle.base
 have LX:=hc.ev x
 have Bp:=hc.ev y
 rw[hx]at LX;rw[hy]at Bp
 have akp:(i.bytes:Int)*n≤281474976710656:=by
  have h4:(i.bytes:Int)≤2048:=ω
  have:(i.bytes:Int)*n≤2048*n:=AI h4 ω
  omega
 have dH:=run_make (P:=P) w t e' i _ hu hi hz k k' l n h0 h1 akp ω
 have hlen:(List.replicate l.toNat e.zero).length=l.toNat:=c9
 have gw:=Tr.row hc.mem bl e' (e:=e) (cs:=madeCells (cr e e.cL).cells (n.toNat*i.size)) (l:=List.replicate l.toNat e.zero) (cap:=n.toNat) (by rw[hlen];omega) (by simp[maxLen];omega)
  (by rw[size_madeCells,hs]) (pI.made w M e (uD ω ω))
 refine bc (CN ho (by rw[LX.int,Bp.int];exact dH)) (hn _ _ _ _ _ _ _ h gw ?_)
 simp only[VR]
 exact⟨by show cm σ.H id _ id≠none;rw[ay];simp,by simp[updν]⟩
theorem Yp(off:Nat)(new cs:Array Value)(h:off+new.size≤cs.size):
  (new.zipIdx.foldl (λcs (x:Value×Nat)=>cs.setIfInBounds (off+x.2) x.1) cs)=(eQ cs.toList off new.toList).toArray:=by
 have h1:new.zipIdx.foldl (λcs (x:Value×Nat)=>cs.setIfInBounds (off+x.2) x.1) cs=(new.toList.zipIdx 0).foldl (λcs (x:Value×Nat)=>cs.setIfInBounds (off+x.2) x.1) cs:=by
  rw[←Array.foldl_toList,Array.toList_zipIdx]
 rw[h1]
 obtain⟨hs,hk⟩:=Great.foldl_set off new.toList 0 cs
 apply Array.ext_getElem?
 intro k
 rw[hk k,←iH (xs:=cs)]
 have hl:new.toList.length=new.size:=bp
 have hc:cs.toList.length=cs.size:=bp
 unfold eQ
 rw[Gm]
 by_cases h2:k<off
 ·rw[ag ω,bF,tv (by rw[cj];omega),List.getElem?_take_of_lt h2]
 ·by_cases h3:k<off+new.size
  ·rw[ak ω,tv (by rw[aS,cj];omega),pC (by rw[cj];omega),cj]
   congr 1
   omega
  ·rw[ag ω,pC (by rw[aS,cj];omega),aS,cj,mY]
   congr 1
   omega
theorem yR{place:Nat→Option (Nat×Nat)}{cs:Array Value}{i:Nat}{v:Value}{rest:List (Nat×Value)}{off s:Nat}(hp:place i=some (off,s))(hs:v.cells.size=s)(h:off+s≤cs.size):
  Instr.fill place cs ((i,v)::rest)=Instr.fill place (eQ cs.toList off v.cells.toList).toArray rest:=by
 have h1: ¬(decide (v.cells.size≠s)||decide (off+v.cells.size>cs.size))=true:=by simp[hs];omega
 conv=>lhs;unfold Instr.fill
 rw[hp]
 simp only
 rw[ag h1]
 congr 1
 exact Yp off v.cells cs ω
theorem sq(a:Act)(ps:Array (Nat×Operand)):(ps.map λ(i,x)=>(i,a.eval x)).toList=ps.toList.map λp=>(p.1,a.eval p.2):=by
 rw[Array.toList_map]
def PR(w:World)(M:Nat→Prop)(H:Nat→Option br)(ν:Nat→Value):List (Nat×bG)→List (Nat×Value)→Prop
 |[],[]=>True
 |p::ps,q::qs=>p.1=q.1∧VR w M H ν p.2 q.2∧PR w M H ν ps qs
 |_,_=>False
theorem PR.ch{w':World}{M':Nat→Prop}{H H':Nat→Option br}{ν':Nat→Value}(k:fP w M w' M')(g:ue H ν H' ν'): ∀{ps:List (Nat×bG)} {qs:List (Nat×Value)},PR w M H ν ps qs→PR w' M' H' ν' ps qs
 |[],[],_=>trivial
 |_::_,_::_,h=>⟨h.1,h.2.1.ch k g,PR.ch k g h.2.2⟩
 |[],_::_,h=>h.elim
 |_::_,[],h=>h.elim
theorem Core.pr(hc:Core c σ a.tmps w M ν): ∀ps:List (Nat×Operand),PR w M σ.H ν (ps.map λp=>(p.1,σ.ρ p.2)) (ps.map λp=>(p.1,a.eval p.2))
 |[]=>trivial
 |p::ps=>⟨rfl,hc.ev p.2,hc.pr ps⟩
theorem DY{e:Ty}{n:Nat}{H:Nat→Option br}: ∀(ps:List (Nat×bG)) (qs:List (Nat×Value)) (H1:Nat→Option br) (M:Nat→Prop) (l:List e.den) (cs:Array Value) (rd:List Nat) (ups:js) (K:List e.den→List Nat→js→Option α),
  Fz H H1→Mem c H1 w M ν→PR w M H1 ν ps qs→l.length=n→cs.size=n*e.size→pI w M e cs.toList l→H1=cU H ups→xt e H n ps l rd ups K=some r→
  ∃l' yK ju M' cs',K l' yK ju=some r∧Tr c H1 w M ν (cU H ju) w M' ν∧Fz H (cU H ju)∧l'.length=n∧cs'.size=n*e.size∧pI w M' e cs'.toList l'∧
   Instr.fill (λi=>some (i*e.size,e.size)) cs qs=some cs':=by
 intro ps
 induction ps with
 |nil=>
  intro qs H1 M l cs rd ups K hz hm hp hl hs hr hH h
  cases qs with
  |cons _ _=>exact hp.elim
  |nil=>exact⟨l,rd,ups,M,cs,h,hH▸Tr.refl hm,hH▸hz,hl,hs,hr,rfl⟩
 |cons p ps ih=>
  intro qs H1 M l cs rd ups K hz hm hp hl hs hr hH h
  cases qs with
  |nil=>exact hp.elim
  |cons q qs=>
   obtain⟨h1,h2,h3⟩:=hp
   unfold xt at h
   obtain⟨hb,h⟩:=cG h
   have eU:p.1<n:=by simpa [A8]using hb
   obtain⟨y,Yq,CO,M1,h,gw,hV,zB,_⟩:=ld hz hm h2 h
   have hlen:(q.2.cells).size=e.size:=by rw[←bp];exact hV.cells.length
   have hmul:=eE (s:=e.size) eU
   have so:=pI.set (hr.ch gw.ch) (by rw[hl,bp,hs];exact aH _) (i:=p.1) ω hV.cells
   obtain⟨l',yK,ju,M',cs',hK,Sl,AA,Jj,T8,ed,hf⟩:=ih qs (cU H1 CO) M1 (l.set p.1 y) (eQ cs.toList (p.1*e.size) q.2.cells.toList).toArray (Yq++rd) (ups++CO) K zB gw.mem (h3.ch gw.ch gw.goes)
    (by rw[bU];exact hl) (by rw[jh,eM (by rw[bp,bp];omega),bp,hs]) so (by rw[eY,hH]) h
   refine⟨l',yK,ju,M',cs',hK,gw.trans Sl,AA,Jj,T8,ed,?_⟩
   rw[yR (off:=p.1*e.size) (s:=e.size) (by rw[h1]) hlen ω]
   exact hf
theorem LY{τ:Ty}{H:Nat→Option br}{place:Nat→Option (Nat×Nat)}(zC: ∀(x:τ.den) n υ y o,DR τ x n υ y o→place n=some (o,υ.size)):
  ∀(ps:List (Nat×bG)) (qs:List (Nat×Value)) (H1:Nat→Option br) (M:Nat→Prop) (x:τ.den) (cs:Array Value) (rd:List Nat) (ups:js) (K:τ.den→List Nat→js→Option α),
  Fz H H1→Mem c H1 w M ν→PR w M H1 ν ps qs→Rd w M τ cs.toList x→H1=cU H ups→mg τ H ps x rd ups K=some r→
  ∃x' yK ju M' cs',K x' yK ju=some r∧Tr c H1 w M ν (cU H ju) w M' ν∧Fz H (cU H ju)∧Rd w M' τ cs'.toList x'∧Instr.fill place cs qs=some cs'∧
   ∀m υ,zj τ m=some υ→(ps.all λp=> !(Nat.beq p.1 m))=true→(cs'.toList.drop (gy τ m)).take υ.size=(cs.toList.drop (gy τ m)).take υ.size:=by
 intro ps
 induction ps with
 |nil=>
  intro qs H1 M x cs rd ups K hz hm hp hr hH h
  cases qs with
  |cons _ _=>exact hp.elim
  |nil=>exact⟨x,rd,ups,M,cs,h,hH▸Tr.refl hm,hH▸hz,hr,rfl,λ_ _ _ _=>rfl⟩
 |cons p ps ih=>
  intro qs H1 M x cs rd ups K hz hm hp hr hH h
  cases qs with
  |nil=>exact hp.elim
  |cons q qs=>
   obtain⟨h1,h2,h3⟩:=hp
   unfold mg at h
   obtain⟨υ,y0,of,hf,h⟩:=p4 h
   obtain⟨y,Yq,CO,M1,h,gw,hV,zB,_⟩:=ld hz hm h2 h
   obtain⟨υ',y',o',k',zP,ji,Bq⟩:=lf h
   obtain⟨rfl,rfl⟩:=zP.eq
   obtain⟨rfl,rfl⟩:=hf.eq
   obtain⟨e1,FJ⟩:=bA ji
   obtain⟨x',o4,_,kD⟩:=Bq _ _ FJ
   have hlen:(q.2.cells).size=(tb τ p.1).size:=by rw[←bp];exact hV.cells.length
   have hb:=hf.bound
   have FG:=hr.length
   rw[bp]at FG
   obtain⟨x2,yK,ju,M',cs',hK,Sl,AA,ed,FH,Sm⟩:=ih qs (cU H1 CO) M1 x' (eQ cs.toList (gy τ p.1) q.2.cells.toList).toArray (Yq++rd) (ups++CO) K zB gw.mem (h3.ch gw.ch gw.goes)
    (kD w M1 _ _ (hr.ch gw.ch) hV.cells) (by rw[eY,hH]) o4
   refine⟨x2,yK,ju,M',cs',hK,gw.trans Sl,AA,ed,?_,λm υ ji iS=> ?_⟩
   ·rw[yR (off:=gy τ p.1) (s:=(tb τ p.1).size) (by rw[←h1];exact zC _ _ _ _ _ hf) hlen ω]
    exact FH
   ·rw[xm,bQ]at iS
    rw[Sm m υ ji iS.2]
    obtain⟨y2,o2,hf2⟩:=kZ ji x
    obtain⟨e3,e4⟩:=hf2.eq
    subst e3 e4
    have kN:p.1≠m:=λe=>by have:=iS.1;rw[e,pY]at this;cases this
    have hap:=hf.apart hf2 kN
    have vm:=hf2.bound
    show((eQ cs.toList (gy τ p.1) q.2.cells.toList).drop _).take _=_
    rw[FE (by rw[bp];omega) (by rw[bp,bp];omega)]
theorem gI.places: ∀(τ:Ty) (fs:Array Field) (n off:Nat),gI P τ (.inr (fs,n,off))→
  ∃ps,(fs.toList.drop n).mapM (λf=>(P.info? f.type).map λi=>(f.offset,i.size))=some ps∧ ∀(x:τ.den) m υ y o,DR τ x m υ y o→ps[m]? =some (off+o,υ.size)
 | .unit,fs,n,off,h=>by
  simp only[gI]at h
  refine⟨[],?_,λx m υ y o hf=>by cases hf⟩
  rw[jM (by rw[bp];omega)];rfl
 | .pair t b,fs,n,off,h=>by
  simp only[gI]at h
  obtain⟨f,hf,ho,ha,hb⟩:=h
  obtain⟨ps,Jn,FH⟩:=gI.places b fs (n+1) (off+t.size) hb
  obtain⟨i,hi,hs,_⟩:=(show kX P t f.type from ha).base
  have eU:n<fs.toList.length:=by rw[bp];exact(lH.1 hf).1
  have hfe:fs.toList[n]=f:=by rw[AP];exact(lH.1 hf).2
  refine⟨(off,t.size)::ps,?_,λx m υ y o zP=> ?_⟩
  ·rw[qW eU,AZ,Jn,hfe,hi]
   simp[ho,hs]
  ·cases zP with
   |here=>simp
   |there _ h'=>simp[FH _ _ _ _ _ h',pW]
 | .int _,_,_,_,h| .bool,_,_,_,h| .str,_,_,_,h| .slice _,_,_,_,h| .arr _ _,_,_,_,h=>by simp[gI]at h
theorem kX.places{τ:Ty}{t:TypeId}(h:kX P τ t)(ha:τ.isAgg=true)(hn: ∀n e,τ≠ .arr n e):
  ∃fs ps,P.underlying t=some (.struct fs)∧fs.toList.mapM (λf=>(P.info? f.type).map λi=>(f.offset,i.size))=some ps∧ ∀(x:τ.den) m υ y o,DR τ x m υ y o→ps[m]? =some (o,υ.size):=by
 cases τ with
 |unit=>
  simp only[kX,gI]at h
  obtain⟨_,fs,hu,hs⟩:=h
  refine⟨fs,[],hu,?_,λx m υ y o hf=>by cases hf⟩
  have:fs.toList=[]:=vo (by rw[bp];exact hs)
  rw[this];rfl
 |pair t' b=>
  simp only[kX,gI]at h
  obtain⟨_,fs,f,hu,hf,ho,ha',hb⟩:=h
  have hg:gI P (.pair t' b) (.inr (fs,0,0)):=by
   simp only[gI]
   exact⟨f,hf,ho,ha',by simpa using hb⟩
  obtain⟨ps,Jn,FH⟩:=gI.places _ fs 0 0 hg
  exact⟨fs,ps,hu,Jn,λx m υ y o zP=>by simpa using FH x m υ y o zP⟩
 |arr n e=>exact absurd rfl (hn n e)
 |int _=>simp[Ty.isAgg]at ha
 |bool=>simp[Ty.isAgg]at ha
 |str=>simp[Ty.isAgg]at ha
 |slice _=>simp[Ty.isAgg]at ha
theorem vE{ρ:Operand→Value}{t:TypeId}{ps:Array (Nat×Operand)}(ho:o.op= .build t ps){v:Value}(h:(Instr.build t (ps.map λ(i,x)=>(i,ρ x))).run P w= .ok v w):(execOp ρ o).run P w= .ok (.value v) w:=by
 simp[execOp,ho,h]
theorem Bt{ρ:Operand→Value}{t:TypeId}{n:Nat}{ps:Array (Nat×Operand)}(ho:o.op= .buildSlice t n ps){v:Value}{w':World}(h:(Instr.buildSlice t n (ps.map λ(i,x)=>(i,ρ x))).run P w= .ok v w'):(execOp ρ o).run P w= .ok (.value v) w':=by
 simp[execOp,ho,h]
theorem VR.T9{H:Nat→Option br}{τ:Ty}(ha:τ.isAgg=true){cs:Array Value}{x:τ.den}(h:Rd w M τ cs.toList x):VR w M H ν (.val τ x) (.agg cs):=by
 simp only[VR,V];rw[ak ha];exact⟨cs,rfl,h⟩
theorem LZ(hE:EnvTy P E)(hc:Core c σ a.tmps w M ν){t:TypeId}{ps:Array (Nat×Operand)}(ho:o.op= .build t ps){K:gS α}{n:Nat}{e:Ty}(ht:E.ty t=some (.arr n e))
  (h:xt e σ.H n (partsOf σ.ρ ps) (List.replicate n e.zero) [] [] (λl rd ups=>K (.val (.arr n e) l) rd ups)=some r) (hn:fJ c σ a o w M ν K r next):o.wp P a w next Q:=by
 have hl:=hE.ty t _ ht
 obtain⟨e',hu,hle⟩:=hl.arr
 obtain⟨i,hi,hs,hz,_⟩:=hl.base
 obtain⟨ie,hie,hes,_⟩:=hle.base
 have Yr:=Rd.arr.1 (Rd.zero w M (.arr n e))
 obtain⟨l',yK,ju,M',cs',hK,gw,AA,Jj,T8,ed,hf⟩:=DY (partsOf σ.ρ ps) (ps.toList.map λ(p:Nat×Operand)=>(p.1,a.eval p.2)) σ.H M (List.replicate n e.zero) (Ty.cL (.arr n e)).toArray [] [] _ (.refl _) hc.mem (hc.pr ps.toList)
  (by rw[c9]) (by rw[jh];exact Yr.2.1) Yr.2.2 rfl h
 refine bc (vE ho (run_build w t _ cs' ?_)) (hn _ _ _ _ _ _ _ hK gw (VR.T9 rfl (Rd.arr.2 ⟨Jj,by rw[bp];exact T8,ed⟩)))
 unfold Program.built
 rw[hi,hu]
 simp only[hz,hie,hes,sq]
 exact hf
theorem E4(hE:EnvTy P E)(hc:Core c σ a.tmps w M ν){t:TypeId}{ps:Array (Nat×Operand)}(ho:o.op= .build t ps){K:gS α}{τ:Ty}(ht:E.ty t=some τ)(Ys: ∀n e,τ≠ .arr n e)
  (h:cond τ.isAgg (mg τ σ.H (partsOf σ.ρ ps) τ.zero [] [] (λl rd ups=>K (ab3 E (partsOf σ.ρ ps) τ l) rd ups)) none=some r) (hn:fJ c σ a o w M ν K r next):o.wp P a w next Q:=by
 obtain⟨GN,h⟩:=cG h
 have hl:=hE.ty t _ ht
 obtain⟨fs,pl,hu,Jn,zC⟩:=hl.places GN Ys
 obtain⟨i,hi,hs,hz,_⟩:=hl.base
 obtain⟨l',yK,ju,M',cs',hK,gw,AA,ed,hf,Sm⟩:=LY (place:=(pl.toArray[·]?)) (λx n υ y o hf=>by simpa using zC x n υ y o hf) (partsOf σ.ρ ps) (ps.toList.map λ(p:Nat×Operand)=>(p.1,a.eval p.2)) σ.H M τ.zero τ.cL.toArray [] [] _ (.refl _) hc.mem (hc.pr ps.toList)
  (Rd.zero w M τ) rfl h
 have hvr:VR w M' (cU σ.H ju) ν (ab3 E (partsOf σ.ρ ps) τ l') (.agg cs'):=by
  unfold ab3
  split
  ·rename_i n e qQ
   cases iS:(partsOf σ.ρ ps).all λp=> !(Nat.beq p.1 n)
   ·exact VR.T9 GN ed
   ·have hq:=LP qQ
    show VR w M' (cU σ.H ju) ν (.LG τ l' n) (.agg cs')
    have hv:=VR.T9 (H:=cU σ.H ju) (ν:=ν) GN ed
    simp only[VR]at hv ⊢
    refine⟨hv,cs',none,rfl,?_⟩
    have R1:zj τ n=some (.slice e):=by
     unfold fA at hq
     split at hq
     ·rename_i a ha
      rw[ha]
      have:=bD hq
      rw[this]
     ·cases hq
    have h2:=Sm n _ R1 iS
    have h3:=CH hq
    simp only[cF,mB]at h3
    have h4:=fe (λl=>l[0]?) h2
    simp only[mX,mY,mB]at h4
    rw[ak (show 0<(Ty.slice e).size from Nat.one_pos),ak (show 0<(Ty.slice e).size from Nat.one_pos)]at h4
    rw[h4];exact h3
  ·exact VR.T9 GN ed
 refine bc (vE ho (run_build w t _ cs' ?_)) (hn _ _ _ _ _ _ _ hK gw hvr)
 unfold Program.built
 rw[hi,hu]
 have hzc:(cr τ τ.cL).cells=τ.cL.toArray:=by apply ia;rw[fK]
 simp only[hz,Jn,sq,hzc]
 exact hf
theorem Sn{ps:List (Nat×bG)}{τ:Ty}{n k:Nat}(h:LH E ps τ=some (n,k)):(∃e,fA [.gM n] τ (.slice e)=true)∧(∀p∈ps,p.1=n→p.2= .ref k)∧ ∃p∈ps,p.1=n:=by
 unfold LH at h
 split at h
 ·rename_i m e Vy qQ
  split at h
  ·rename_i i j hf
   cases h
   refine⟨⟨e,LP qQ⟩,λp hp Yt=> ?_,?_⟩
   ·have:p∈ps.filter λp=>Nat.beq p.1 n:=rS.2 ⟨hp,by rw[Yt];exact pY n⟩
    rw[hf,cy]at this
    rw[this]
   ·have:(i,bG.ref k)∈ps.filter λp=>Nat.beq p.1 n:=by rw[hf];simp
    obtain⟨h1,h2⟩:=rS.1 this
    exact⟨_,h1,fF h2⟩
  ·cases h
 ·cases h
theorem JH{τ:Ty}{H:Nat→Option br}{place:Nat→Option (Nat×Nat)}(zC: ∀(x:τ.den) n υ y o,DR τ x n υ y o→place n=some (o,υ.size)){n k:Nat}{e:Ty}(hq:zj τ n=some (.slice e))(CF:(ν k).cells= #[ν k]):
  ∀(ps:List (Nat×bG)) (qs:List (Nat×Value)) (H1:Nat→Option br) (M:Nat→Prop) (x:τ.den) (cs real:Array Value) (u:Value) (rd:List Nat) (ups:js) (K:τ.den→List Nat→js→Option α),
  Fz H H1→Mem c H1 w M ν→PR w M H1 ν ps qs→(∀p∈ps,p.1=n→p.2= .ref k)→Rd w M τ cs.toList x→real.toList=eQ cs.toList (gy τ n) [u]→H1=cU H ups→mg τ H (xy n ps) x rd ups K=some r→
  ∃x' yK ju M' u',∃(cs' Bu:Array Value),K x' yK ju=some r∧Tr c H1 w M ν (cU H ju) w M' ν∧Fz H (cU H ju)∧Rd w M' τ cs'.toList x'∧Instr.fill place real qs=some Bu∧Bu.toList=eQ cs'.toList (gy τ n) [u']∧
   (u'=ν k∨(u'=u∧ ∀p∈ps,p.1≠n)):=by
 intro ps
 induction ps with
 |nil=>
  intro qs H1 M x cs real u rd ups K hz hm hp iS hr hu hH h
  cases qs with
  |cons _ _=>exact hp.elim
  |nil=>exact⟨x,rd,ups,M,u,cs,real,h,hH▸Tr.refl hm,hH▸hz,hr,rfl,hu,.inr ⟨rfl,λ_ h=>by simp at h⟩⟩
 |cons p ps ih=>
  intro qs H1 M x cs real u rd ups K hz hm hp iS hr hu hH h
  cases qs with
  |nil=>exact hp.elim
  |cons q qs=>
   obtain⟨h1,h2,h3⟩:=hp
   have aiM: ∀p∈ps,p.1=n→p.2= .ref k:=λp hp=>iS p (ba _ hp)
   obtain⟨yn,on,hfn⟩:=kZ hq x
   have hbn:=hfn.bound
   have hon:=hfn.eq.2
   subst hon
   rw[show(Ty.slice e).size=1 from rfl]at hbn
   have FG:=hr.length
   rw[bp]at FG
   have hrs:real.size=cs.size:=by
    have h0:gy τ n+[u].length≤cs.toList.length:=by rw[bp];exact ck hbn (Nat.le_of_eq FG.symm)
    rw[←bp,hu,eM h0,bp]
   by_cases Yt:p.1=n
   ·
    have Bv:=iS p bu Yt
    have hb:Nat.beq p.1 n=true:=by rw[Yt];exact pY n
    have h:mg τ H ((p.1,bG.emp)::xy n ps) x rd ups K=some r:=by
     have e1:xy n (p::ps)=(p.1,bG.emp)::xy n ps:=by simp[xy,hb]
     rw[e1]at h;exact h
    unfold mg at h
    obtain⟨υ,y0,of,hf,h⟩:=p4 h
    have hve:VR w M H1 ν .emp (.slice none 0 0):=by simp only[VR];exact⟨none,rfl⟩
    obtain⟨y,Yq,CO,M1,h,gw,hV,zB,_⟩:=ld hz hm hve h
    obtain⟨υ',y',o',k',zP,ji,Bq⟩:=lf h
    obtain⟨rfl,rfl⟩:=zP.eq
    obtain⟨rfl,rfl⟩:=hf.eq
    obtain⟨e1,FJ⟩:=bA ji
    obtain⟨x',o4,_,kD⟩:=Bq _ _ FJ
    have qR:(tb τ p.1).size=1:=by
     have h5:=hfn.eq.1
     rw[Yt,←h5];rfl
    rw[Bv]at h2
    simp only[VR]at h2
    have Yu:=kD w M1 _ _ (hr.ch gw.ch) hV.cells
    have hcn:(Value.slice none 0 0).cells.toList=[.slice none 0 0]:=rfl
    rw[hcn]at Yu
    obtain⟨x2,yK,ju,M',u',cs',Bu,hK,Sl,AA,ed,FH,VG,hor⟩:=ih qs (cU H1 CO) M1 x' (eQ cs.toList (gy τ p.1) [.slice none 0 0]).toArray (eQ real.toList (gy τ n) [ν k]).toArray (ν k) (Yq++rd) (ups++CO) K zB gw.mem (h3.ch gw.ch gw.goes) aiM
     Yu (by
      show eQ real.toList (gy τ n) [ν k]=eQ (eQ cs.toList (gy τ p.1) [.slice none 0 0]) (gy τ n) [ν k]
      rw[hu,Yt,uR (by rw[bp];omega),uR (by rw[bp];omega)]) (by rw[eY,hH]) o4
    refine⟨x2,yK,ju,M',u',cs',Bu,hK,gw.trans Sl,AA,ed,?_,VG,.inl (hor.elim id λh=>h.1)⟩
    have hpq:place q.1=some (gy τ n,1):=by rw[←h1,Yt];exact zC _ _ _ _ _ hfn
    rw[yR (off:=gy τ n) (s:=1) hpq (by rw[h2.2,CF];rfl) ω,h2.2,CF]
    exact FH
   ·have hb:Nat.beq p.1 n=false:=by
     cases hb:Nat.beq p.1 n
     ·rfl
     ·exact absurd (fF hb) Yt
    have h:mg τ H (p::xy n ps) x rd ups K=some r:=by
     have e1:xy n (p::ps)=p::xy n ps:=by simp[xy,hb]
     rw[e1]at h;exact h
    unfold mg at h
    obtain⟨υ,y0,of,hf,h⟩:=p4 h
    obtain⟨y,Yq,CO,M1,h,gw,hV,zB,_⟩:=ld hz hm h2 h
    obtain⟨υ',y',o',k',zP,ji,Bq⟩:=lf h
    obtain⟨rfl,rfl⟩:=zP.eq
    obtain⟨rfl,rfl⟩:=hf.eq
    obtain⟨e1,FJ⟩:=bA ji
    obtain⟨x',o4,_,kD⟩:=Bq _ _ FJ
    have hlen:(q.2.cells).size=(tb τ p.1).size:=by rw[←bp];exact hV.cells.length
    have hbf:=hf.bound
    have hap:=hf.apart hfn Yt
    rw[show(Ty.slice e).size=1 from rfl]at hap
    obtain⟨x2,yK,ju,M',u',cs',Bu,hK,Sl,AA,ed,FH,VG,hor⟩:=ih qs (cU H1 CO) M1 x' (eQ cs.toList (gy τ p.1) q.2.cells.toList).toArray (eQ real.toList (gy τ p.1) q.2.cells.toList).toArray u (Yq++rd) (ups++CO) K zB gw.mem (h3.ch gw.ch gw.goes) aiM
     (kD w M1 _ _ (hr.ch gw.ch) hV.cells) (by
      show eQ real.toList (gy τ p.1) q.2.cells.toList=eQ (eQ cs.toList (gy τ p.1) q.2.cells.toList) (gy τ n) [u]
      rw[hu]
      have hlu:[u].length=1:=rfl
      have Ua:q.2.cells.toList.length=(tb τ p.1).size:=by rw[bp];exact hlen
      exact Om (a:=[u]) (b:=q.2.cells.toList) (by rw[hlu,Ua];omega) (by rw[hlu,bp];omega) (by rw[Ua,bp];omega)) (by rw[eY,hH]) o4
    refine⟨x2,yK,ju,M',u',cs',Bu,hK,gw.trans Sl,AA,ed,?_,VG,hor.imp id λh=>⟨h.1,λp' RZ=>(bh.1 RZ).elim (λe=>e▸Yt) (h.2 p')⟩⟩
    rw[yR (off:=gy τ p.1) (s:=(tb τ p.1).size) (by rw[←h1];exact zC _ _ _ _ _ hf) hlen ω]
    exact FH
theorem Ow(hE:EnvTy P E)(hc:Core c σ a.tmps w M ν){t:TypeId}{ps:Array (Nat×Operand)}(ho:o.op= .build t ps){K:gS α}{τ:Ty}(ht:E.ty t=some τ)(Ys: ∀n e,τ≠ .arr n e){n k:Nat}(hs:LH E (partsOf σ.ρ ps) τ=some (n,k))
  (h:(match σ.H k with
   |some (.own _ _)=>cond τ.isAgg (mg τ σ.H (xy n (partsOf σ.ρ ps)) τ.zero [] [] λx rd ups=>K (.Jy τ x n k) (k::rd) ups) none
   |_=>none)=some r) (hn:fJ c σ a o w M ν K r next):o.wp P a w next Q:=by
 obtain⟨⟨e,hq⟩,iS,p0,hp0,avp⟩:=Sn hs
 split at h
 ·rename_i e' l hk
  obtain⟨GN,h⟩:=cG h
  have R1:zj τ n=some (.slice e):=by
   unfold fA at hq
   split at hq
   ·rename_i a ha
    rw[ha]
    rw[show a= .slice e from bD hq]
   ·cases hq
  have CF:(ν k).cells= #[ν k]:=by
   have:=hc.mem.jQ k _ hk
   simp only[ER]at this
   rcases this with⟨_,ad,hv⟩|⟨b,cs,t,cap,hv,_⟩<;>rw[hv]<;>rfl
  have hl:=hE.ty t _ ht
  obtain⟨fs,pl,hu,Jn,zC⟩:=hl.places GN Ys
  obtain⟨i,hi,qR,hz,_⟩:=hl.base
  have R4:τ.cL[gy τ n]? =some (.slice none 0 0):=by simpa [cF]using CH hq
  obtain⟨x',yK,ju,M',u',cs',Bu,hK,gw,AA,ed,hf,VG,hor⟩:=JH (place:=(pl.toArray[·]?)) (λx n υ y o hf=>by simpa using zC x n υ y o hf) R1 CF (partsOf σ.ρ ps) (ps.toList.map λ(p:Nat×Operand)=>(p.1,a.eval p.2)) σ.H M τ.zero τ.cL.toArray τ.cL.toArray (.slice none 0 0) [] [] _ (.refl _) hc.mem (hc.pr ps.toList) iS
   (Rd.zero w M τ) (xB R4).symm rfl h
  have hu2:u'=ν k:=hor.elim id λh=>absurd avp (h.2 p0 hp0)
  subst hu2
  refine bc (vE ho (run_build w t _ Bu ?_)) (hn _ _ _ _ _ _ _ hK gw ?_)
  ·unfold Program.built
   rw[hi,hu]
   have hzc:(cr τ τ.cL).cells=τ.cL.toArray:=by apply ia;rw[fK]
   simp only[hz,Jn,sq,hzc]
   exact hf
  ·simp only[VR]
   refine⟨Bu,cs'.toList,rfl,ed,VG,?_,rF hq⟩
   obtain⟨e1,GV,_⟩:=gw.goes.jQ k _ hk
   rw[GV];simp
 ·cases h
theorem JI(hE:EnvTy P E)(hc:Core c σ a.tmps w M ν){t:TypeId}{n:Nat}{ps:Array (Nat×Operand)}(ho:o.op= .buildSlice t n ps){K:gS α}{e:Ty}(ht:E.ty t=some (.slice e)){id:Nat}
  (h:cond (Nat.ble (n*(e.size+1)) 16777216) (se σ.H id (.own e []) (xt e σ.H n (partsOf σ.ρ ps) (List.replicate n e.zero) [] [] λl rd ups=>K (.ref id) (id::rd) (ups++[(id,some (.own e l))]))) none=some r)
  (hn:fJ c σ a o w M ν K r next):o.wp P a w next Q:=by
 obtain⟨hb,h⟩:=cG h
 obtain⟨bl,h⟩:=mD h
 have hb:=Gn hb
 rw[Nat.mul_add,Nat.mul_one]at hb
 obtain⟨e',hu,hle⟩:=(hE.ty t _ ht).slice
 obtain⟨ie,hie,hes,hz,_⟩:=hle.base
 obtain⟨l',yK,ju,M',cs',hK,gw,AA,Jj,T8,ed,hf⟩:=DY (partsOf σ.ρ ps) (ps.toList.map λ(p:Nat×Operand)=>(p.1,a.eval p.2)) σ.H M (List.replicate n e.zero) (madeCells (cr e e.cL).cells (n*e.size)) [] [] _ (.refl _) hc.mem (hc.pr ps.toList)
  (by rw[c9]) (size_madeCells _ _) (pI.made w M e (aH _)) rfl h
 have akd:cU σ.H ju id=none:=AA.none bl
 have xG:=gw.trans (Tr.row gw.mem akd e' (e:=e) (cs:=cs') (l:=l') (cap:=n) ω (by simp[maxLen];omega) T8 ed)
 have dH:(Instr.buildSlice t n (ps.map λ(i,x)=>(i,a.eval x))).run P w= .ok (.slice (some ⟨w.heap.size,0,none⟩) n n) (w.alloc (.cells cs' e')):=by
  by_cases h0:n*e.size=0
  ·rw[h0]at hf
   have hm0:madeCells (cr e e.cL).cells 0=(Array.range 0).map λi:Nat=>(#[]:Array Value)[i%0]! :=by simp[madeCells]
   rw[hm0]at hf
   rw[←sq]at hf
   simp[Instr.buildSlice,run_underlying hu,Go.sizeOf,typeInfo,hie,hes,h0,newRow]at hf ⊢
   simp[hf]
  ·refine run_buildSlice w t e' n _ cs' ie _ hu hie hz (by rw[hes];omega) (by rw[hes];exact h0) ?_
   rw[hes,sq]
   exact hf
 refine bc (Bt ho dH) (hn _ _ _ _ _ (λb=>M' b∨b=w.heap.size) (updν ν id (.slice (some ⟨w.heap.size,0,none⟩) l'.length n)) hK ?_ ?_)
 ·rw[eY];exact xG
 ·simp only[VR]
  exact⟨by rw[eY];show cm _ id _ id≠none;rw[ay];simp,by simp[updν,Jj]⟩
def Bnd(o:Option Value)(d l:Int):Prop:=(o=none∧l=d)∨ ∃k,o=some (.int k l)
theorem p6(hc:Core c σ a.tmps w M ν){x:Option Operand}{d:Int}{k:Int→Option α}(h:zm (x.map σ.ρ) d k=some r): ∃l,k l=some r∧Bnd (x.map a.eval) d l:=by
 cases x with
 |none=>exact⟨d,h,.inl ⟨rfl,rfl⟩⟩
 |some x=>
  obtain⟨i,n,hx,h⟩:=oq (h:wR (σ.ρ x) (λ_ x=>k x)=some r)
  have hv:=hc.ev x
  rw[hx]at hv
  exact⟨n,h,.inr ⟨i,by rw[←hv.int];rfl⟩⟩
theorem wG{s:Bool}{len cap:Nat}{lo hi mx:Option Value}{l h m:Int}(w9:Bnd lo 0 l)(Kk:Bnd hi len h)(NB:Bnd mx cap m)(hm:mx.isNone=true∨hi.isSome=true)
  (h0:0≤l) (h1:l≤h) (h2:h≤m) (h3:m≤cap):(Instr.sliceBounds s len cap lo hi mx).run P w= .ok (l.toNat,h.toNat,m.toNat) w:=by
 have hb: ∀(k:IntKind) (i:Int) (y:Nat) cd,0≤i→i≤y→(Instr.sliceBound (.int k i) y cd).run P w= .ok i.toNat w:=by
  intro k i y cd h1 h2
  simp[Instr.sliceBound,asIntOf,h1,h2]
 have ji:((m.toNat:Nat):Int)=m:=ω
 have hh':((h.toNat:Nat):Int)=h:=ω
 rcases NB with⟨rfl,rfl⟩|⟨km,rfl⟩
 ·rcases Kk with⟨rfl,rfl⟩|⟨kh,rfl⟩
  ·rcases w9 with⟨rfl,rfl⟩|⟨kl,rfl⟩
   ·simp[Instr.sliceBounds]
   ·simp[Instr.sliceBounds,hb kl l len _ h0 h1]
  ·rcases w9 with⟨rfl,rfl⟩|⟨kl,rfl⟩
   ·simp[Instr.sliceBounds,hb kh h cap _ ω h2]
   ·simp[Instr.sliceBounds,hb kh h cap _ ω h2,hb kl l h.toNat _ h0 ω]
 ·rcases Kk with⟨rfl,rfl⟩|⟨kh,rfl⟩
  ·simp at hm
  ·rcases w9 with⟨rfl,rfl⟩|⟨kl,rfl⟩
   ·simp[Instr.sliceBounds,hb km m cap _ ω h3,hb kh h m.toNat _ ω ω]
   ·simp[Instr.sliceBounds,hb km m cap _ ω h3,hb kh h m.toNat _ ω ω,hb kl l h.toNat _ h0 ω]
theorem JJ{ρ:Operand→Value}{t:TypeId}{x:Operand}{lo hi mx:Option Operand}(ho:o.op= .slice t x lo hi mx){s:ByteArray}{l h:Int}(hu:P.underlying t=some .string)(hx:ρ x= .string s)
  (w9:Bnd (lo.map ρ) 0 l) (Kk:Bnd (hi.map ρ) s.size h) (NB:mx.isNone=true) (h0:0≤l) (h1:l≤h) (h2:h≤s.size):(execOp ρ o).run P w= .ok (.value (.string (s.extract l.toNat h.toNat))) w:=by
 have hm:mx=none:=by simpa using NB
 subst hm
 have hb:=wG (P:=P) (w:=w) (s:=false) w9 Kk (.inl ⟨rfl,rfl⟩) (.inl rfl) h0 h1 h2 (fY _)
 simp[execOp,ho,hx,Instr.sliceAt,Instr.slice,run_underlying hu,hb]
theorem q3{ρ:Operand→Value}{t e:TypeId}{x:Operand}{lo hi mx:Option Operand}(ho:o.op= .slice t x lo hi mx){τ:Ty}{ad:Option Addr}{len cap:Nat}{l h m:Int}(hu:P.underlying t=some (.slice e))(hle:kX P τ e)(hx:ρ x= .slice ad len cap)
  (w9:Bnd (lo.map ρ) 0 l) (Kk:Bnd (hi.map ρ) len h) (NB:Bnd (mx.map ρ) cap m) (hm:(mx.map ρ).isNone=true∨(hi.map ρ).isSome=true) (h0:0≤l) (h1:l≤h) (h2:h≤m) (h3:m≤cap):
  (execOp ρ o).run P w= .ok (.value (.slice (if m.toNat=l.toNat then ad else ad.map (·.add (l.toNat*τ.size))) (h.toNat-l.toNat) (m.toNat-l.toNat))) w:=by
 have hb:=wG (P:=P) (w:=w) (s:=true) w9 Kk NB hm h0 h1 h2 h3
 simp[execOp,ho,hx,Instr.sliceAt,Instr.slice,run_underlying hu,hb,dz hle]
theorem DZ{x:Option Operand}(h:kC x=true)(a:Act): ∃k,x.map a.eval=some (.int k 0):=by
 unfold kC at h
 split at h
 ·rename_i k n
  have:n=0:=by simpa using h
  subst this
  exact⟨k,rfl⟩
 ·cases h
theorem Rd.cut{e:Ty}{ad:Option Addr}{len cap:Nat}{x:List e.den}(h:Rd w M (.slice e) [.slice ad len cap] x){l hh m:Int}(h0:0≤l)(h1:l≤hh)(h2:hh≤m)(hl:hh≤x.length):
  Rd w M (.slice e) [.slice (if m.toNat=l.toNat then ad else ad.map (·.add (l.toNat*e.size))) (hh.toNat-l.toNat) (m.toNat-l.toNat)] (List.drop l.toNat (List.take hh.toNat x)):=by
 simp only[Rd,fW,eL]at h ⊢
 obtain⟨a',nh,hv,hc,hr⟩:=h
 cases hv
 have hlen:ℓ (List.drop l.toNat (List.take hh.toNat x))=hh.toNat-l.toNat:=by rw[ec,cj];omega
 refine⟨_,_,by rw[hlen],by rw[hlen];omega,λi hi=> ?_⟩
 rw[hlen]at hi
 obtain⟨b,off,ha,hb,hm,cs,pH,kD⟩:=hr (l.toNat+i) ω
 rw[ag ω]
 refine⟨b,off+l.toNat*e.size,by rw[ha];simp[Addr.add_lit],hb,hm,cs,?_,?_⟩
 ·rw[show off+l.toNat*e.size+i*e.size=off+(l.toNat+i)*e.size from by rw[eJ];omega];exact pH
 ·simp only[Gq,Gt,AW]at kD ⊢
  exact kD
theorem VR.emp{H:Nat→Option br}{v:Value}:VR w M H ν .emp v↔ ∃ad,v= .slice ad 0 0:=by simp[VR]
theorem Yv(hE:EnvTy P E)(hc:Core c σ a.tmps w M ν){t:TypeId}{x:Operand}{lo hi mx:Option Operand}(ho:o.op= .slice t x lo hi mx){K:gS α}{τ:Ty}(ht:E.ty t=some τ)
  (h:si τ (lo.isNone&&kC hi&&kC mx) (σ.ρ x) (lo.map σ.ρ) (hi.map σ.ρ) (mx.map σ.ρ) σ.H K=some r) (hn:fJ c σ a o w M ν K r next):o.wp P a w next Q:=by
 have zq:=hE.ty t τ ht
 have hv:=hc.ev x
 have R4: ∀(e:Ty) (e':TypeId) (ad:Option Addr) (len cap:Nat),P.underlying t=some (.slice e')→kX P e e'→a.eval x= .slice ad len cap→(lo.isNone&&kC hi&&kC mx)=true→
   ∃ad',(execOp a.eval o).run P w= .ok (.value (.slice ad' 0 0)) w:=by
  intro e e' ad len cap hu hle hx hz
  simp only[bQ]at hz
  obtain⟨⟨h1,h2⟩,h3⟩:=hz
  have h1:lo=none:=by simpa using h1
  subst h1
  obtain⟨k2,h2⟩:=DZ h2 a
  obtain⟨k3,h3⟩:=DZ h3 a
  have:=q3 (P:=P) (w:=w) ho hu hle hx (l:=0) (h:=0) (m:=0) (.inl ⟨rfl,rfl⟩) (.inr ⟨k2,h2⟩) (.inr ⟨k3,h3⟩) (.inr (by rw[h2];rfl)) ω ω ω ω
  exact⟨_,this⟩
 unfold si at h
 split at h
 ·rename_i s hx
  obtain⟨hm,h⟩:=cG h
  obtain⟨l,h,w9⟩:=p6 hc h
  obtain⟨hh,h,Kk⟩:=p6 hc h
  obtain⟨hk,h⟩:=cG h
  rw[sa]at hk
  obtain⟨h0,h1,h2,h3⟩:=bD hk
  rw[hx]at hv
  exact bc (JJ ho zq.str hv.str w9 Kk (by simpa using hm) h0 h1 h2) (hn _ [] [] _ _ _ _ h (.refl hc.mem) (.mkStr _))
 ·rename_i e hx
  obtain⟨e',hu,hle⟩:=zq.slice
  rw[hx]at hv
  obtain⟨ad,hv⟩:=VR.emp.1 hv
  cases hz:(lo.isNone&&kC hi&&kC mx)
  ·rw[hz]at h
   replace h:cond (mx.map σ.ρ).isNone (zm (lo.map σ.ρ) 0 λl=>zm (hi.map σ.ρ) 0 λh=>cond (jc l h 0 0) (K .emp [] []) none) none=some r:=h
   obtain⟨hm,h⟩:=cG h
   obtain⟨l,h,w9⟩:=p6 hc h
   obtain⟨hh,h,Kk⟩:=p6 hc h
   obtain⟨hk,hK⟩:=cG h
   rw[sa]at hk
   obtain⟨h0,h1,h2,h3⟩:=bD hk
   have ji:mx=none:=by simpa using hm
   subst ji
   have:=q3 (P:=P) (w:=w) ho hu hle hv w9 Kk (.inl ⟨rfl,rfl⟩) (.inl rfl) h0 h1 (m:=0) ω ω
   refine bc this (hn _ [] [] _ _ _ _ hK (.refl hc.mem) (VR.emp.2 ?_))
   rw[show hh.toNat-l.toNat=0 from by omega,show(0:Int).toNat-l.toNat=0 from by omega]
   exact⟨_,rfl⟩
  ·rw[hz]at h
   obtain⟨ad',dH⟩:=R4 e e' ad 0 0 hu hle hv hz
   exact bc dH (hn _ [] [] _ _ _ _ h (.refl hc.mem) (VR.emp.2 ⟨_,rfl⟩))
 ·rename_i e kN
  obtain⟨e',hu,hle⟩:=zq.slice
  cases hz:(lo.isNone&&kC hi&&kC mx)
  ·rw[hz]at h
   obtain⟨y,rd,ups,M',h,gw,hV,_⟩:=ld (.refl _) hc.mem hv h
   replace h:cond ((mx.map σ.ρ).isNone||(hi.map σ.ρ).isSome) (zm (lo.map σ.ρ) 0 λl=>zm (hi.map σ.ρ) (ℓ y:Int) λh=>zm (mx.map σ.ρ) (ℓ y:Int) λm=>
    cond (jc l h m (ℓ y:Int)) (K (.val (.slice e) (List.drop l.toNat (List.take h.toNat y))) rd ups) none) none=some r:=h
   obtain⟨hm,h⟩:=cG h
   obtain⟨l,h,w9⟩:=p6 hc h
   obtain⟨hh,h,Kk⟩:=p6 hc h
   obtain⟨m,h,NB⟩:=p6 hc h
   obtain⟨hk,h⟩:=cG h
   rw[sa]at hk
   obtain⟨h0,h1,h2,h3⟩:=bD hk
   have hr:=V.slice.1 hV
   have ed:=hr
   simp only[Rd,fW,eL]at ed
   obtain⟨ad,cap,hx,akn,_⟩:=ed
   rw[hx]at hr
   have ji:(mx.map a.eval).isNone=true∨(hi.map a.eval).isSome=true:=by
    simp only[og,Option.isNone_map,Option.isSome_map]at hm ⊢;exact hm
   have Yw: ∃m',Bnd (mx.map a.eval) cap m'∧hh≤m'∧m'≤cap:=by
    rcases NB with⟨h9,_⟩|⟨k,h9⟩
    ·exact⟨cap,.inl ⟨h9,rfl⟩,ω,fY _⟩
    ·exact⟨m,.inr ⟨k,h9⟩,h2,ω⟩
   obtain⟨m',Yw,h4,h5⟩:=Yw
   have dH:=q3 (P:=P) (w:=w) ho hu hle hx w9 Kk Yw ji h0 h1 h4 h5
   refine bc dH (hn _ _ _ _ _ M' _ h gw ?_)
   simp only[VR]
   exact V.slice.2 (hr.cut h0 h1 h4 ω)
  ·rw[hz]at h
   obtain⟨y,rd,h,hS⟩:=DS hc.mem hv h
   obtain⟨ad,cap,hx,_⟩:=hS
   obtain⟨ad',dH⟩:=R4 e e' ad _ cap hu hle hx hz
   exact bc dH (hn _ _ [] _ _ _ _ h (.refl hc.mem) (VR.emp.2 ⟨_,rfl⟩))
 ·cases h
theorem VH(hE:EnvTy P E)(hc:Core c σ a.tmps w M ν){t:TypeId}{x:Operand}{lo hi mx:Option Operand}(ho:o.op= .slice t x lo hi mx){K:gS α}{τ:Ty}(ht:E.ty t=some τ)
  (h:xw E τ (lo.isNone&&kC hi&&kC mx) (σ.ρ x) (lo.map σ.ρ) (hi.map σ.ρ) (mx.map σ.ρ) σ.H K=some r) (hn:fJ c σ a o w M ν K r next):o.wp P a w next Q:=by
 unfold xw at h
 split at h
 ·rename_i e id lo' hvw hx w9 Kk NB
  have zq:=hE.ty t _ ht
  obtain⟨e',hu,hle⟩:=zq.slice
  have hv:=hc.ev x
  rw[hx]at hv
  simp only[VR]at hv
  obtain⟨h0,hv⟩:=hv
  have h:zm (lo.map σ.ρ) 0 (λi=>match σ.H id with
   |some (.own e' l)=>jt e' e (cond (jc i (ℓ l:Int) (ℓ l:Int) (ℓ l:Int)) (K (.sub id e i.toNat) [id] []) none)
   |_=>none)=some r:=by rw[w9];exact h
  obtain⟨i,h,hb⟩:=p6 hc h
  split at h
  ·rename_i e2 l bl
   obtain⟨e1,h⟩:=dX h
   subst e1
   obtain⟨hk,h⟩:=cG h
   rw[sa]at hk
   obtain⟨h1,h2,_,_⟩:=bD hk
   obtain⟨ad,cap,hnu⟩:=ER.G0 (hc.mem.jQ id _ bl)
   have akn:l.length≤cap:=by
    have:=hc.mem.jQ id _ bl
    simp only[ER]at this
    rcases this with⟨rfl,a,R3⟩|⟨b,cs,t,cp,R3,_,_,_,hl,_⟩
    ·simp
    ·rw[hnu]at R3;simp only[Value.slice.injEq]at R3;obtain⟨_,_,rfl⟩:=R3;exact hl
   have avq:hi=none:=by simpa using Kk
   have Yw:mx=none:=by simpa using NB
   subst avq Yw
   have dH:=q3 (P:=P) (w:=w) ho hu hle (hv.trans hnu) (l:=i) (h:=(l.length:Int)) (m:=(cap:Int)) hb (.inl ⟨rfl,rfl⟩) (.inl ⟨rfl,rfl⟩) (.inl rfl) h1 h2 ω (fY _)
   refine bc dH (hn _ _ [] _ _ _ _ h (.refl hc.mem) ?_)
   simp only[VR]
   exact⟨h0,ad,_,cap,hnu,by simp⟩
  ·cases h
 ·exact Yv hE hc ho ht h hn
theorem tE{t ty e:TypeId}{i:TypeInfo}(ht:P.underlying t=some (.slice e))(hi:P.info? e=some i)(base:Option Addr)(n cap:Nat)(h:n≤cap)(a':Option Addr)(cp:Nat):
  (Builtin.append_ #[t,t] ty #[.slice base n cap,.slice a' 0 cp]).run P w= .ok (.slice base n cap) w:=by
 cases a'<;>cases base<;>simp[Builtin.append_,run_underlying ht,Go.sizeOf,typeInfo,hi,Builtin.lenOf,h,Builtin.firstCells,loadCells,loadCellsFrom,storeCells]
theorem Ox{t ty e te:TypeId}{i:TypeInfo}(ht:P.underlying t=some (.slice e))(hi:P.info? e=some i){b n cap m cp:Nat}{a':Addr}{news:List Value}{cs:Array Value}
  (hg:w.heap[b]? =some (.cells cs te (0,0))) (hs:cs.size=cap*i.size) (hl:news.length=m*i.size) (hn: ∀j u,news[j]? =some u→w.cell? (a'.add j)=some u) (h1: ∀u∈news,u.oneCell'=true) (hr:n+m≤cap):
  (Builtin.append_ #[t,t] ty #[.slice (some ⟨b,0,none⟩) n cap,.slice (some a') m cp]).run P w= .ok (.slice (some ⟨b,0,none⟩) (n+m) cap) (w.setRow b (eQ cs.toList (n*i.size) news).toArray):=by
 have hf:=run_firstCells_some (P:=P) w i.size m a' m cp news hl hn
 have hm:(n+m)*i.size≤cap*i.size:=kB _ hr
 rw[eJ]at hm
 have w7:=run_storeCells_at (P:=P) b (n*i.size) te news 0 cs w hg ω h1
 simp only[mB]at w7
 simp[Builtin.append_,run_underlying ht,Go.sizeOf,typeInfo,hi,Builtin.lenOf,hr,hf,Addr.add_lit,w7,eQ]
theorem iT{args:Array Operand}{t:TypeId}{x y:Operand}{v:Value}{w':World}(ho:o.op= .call {callee:= .builtin .append,args,argTypes:= #[t,t]})(ha:args.toList=[x,y])
  (h:(Builtin.append_ #[t,t] o.type #[a.eval x,a.eval y]).run P w= .ok v w'):(execOp a.eval o).run P w= .ok (.value v) w':=by
 obtain⟨cs,hr⟩:=om (P:=P) (ρ:=a.eval) ho (w:=w)
 rw[hr]
 have:args.map a.eval= #[a.eval x,a.eval y]:=by apply ia;simp[ha]
 rw[this]
 simp[builtin,h]
theorem G1{H:Nat→Option br}(hm:Mem c H w M ν){id:Nat}(bl:H id=none){t ty:TypeId}{e':TypeId}{e:Ty}(hu:P.underlying t=some (.slice e'))(hle:kX P e e')
  {xs ys:List e.den} {olds news:List Value} {base:Option Addr} {cap cp:Nat} {a':Addr} (Yx:base=none→xs=[]∧cap=0)
  (w9:olds.length=xs.length*e.size) (hro:pI w M e olds xs) (ho: ∀b,base=some b→ ∀j u,olds[j]? =some u→w.cell? (b.add j)=some u)
  (hln:news.length=ys.length*e.size) (hrn:pI w M e news ys) (hn: ∀j u,news[j]? =some u→w.cell? (a'.add j)=some u)
  (hg:cap<xs.length+ys.length) (hs:xs.length+ys.length<Ba):
  ∃v w' M' ν',(Builtin.append_ #[t,t] ty #[.slice base xs.length cap,.slice (some a') ys.length cp]).run P w= .ok v w'∧Tr c H w M ν (cm H id (some (.own e (xs++ys)))) w' M' ν'∧ν' id=v:=by
 obtain⟨i,hi,qR,hz,hby⟩:=hle.base
 have hzs:(cr e e.cL).cells.size=e.size:=by rw[←bp,fK,mF]
 have h63:xs.length+ys.length≤maxLen:=by simp only[Ba,maxLen]at hs ⊢;omega
 have G4:(xs.length+ys.length)*i.bytes≤140737488355328:=by
  have:(xs.length+ys.length)*i.bytes≤68719476736*2048:=uD (by simp only[Ba]at hs;omega) hby
  omega
 have dH: ∃nh rest,(Builtin.append_ #[t,t] ty #[.slice base xs.length cap,.slice (some a') ys.length cp]).run P w= .ok (.slice (some ⟨w.heap.size,0,none⟩) (xs.length+ys.length) nh) (w.drew.alloc (.cells (olds++news++rest).toArray e'))∧
   xs.length+ys.length≤nh∧nh≤maxLen∧rest.length=(nh-(xs.length+ys.length))*e.size:=by
  refine⟨grownCap w (xs.length+ys.length) cap e',(Builtin.zeroCells (cr e e.cL).cells (grownCap w (xs.length+ys.length) cap e'-(xs.length+ys.length))).toList,?_,grownCap_ge _ _ _ _,grownCap_le_maxLen _ _ _ _ h63,?_⟩
  ·cases base with
   |none=>
    obtain⟨rfl,rfl⟩:=Yx rfl
    have ho0:olds=[]:=vo (by rw[w9];simp)
    subst ho0
    have:=run_append_nil (P:=P) w t ty e' i _ hu hi hz a' ys.length cp news (by rw[hln,qR]) hn (by simpa using hg) (by simp only[Ba]at hs;omega) (by simp at G4;omega)
    simp only[bZ,fX,cD]
    rw[this]
    congr 2
    apply fe (λz=>Obj.cells z e' (0,0))
    apply ia;simp
   |some b=>
    have:=run_append_grow (P:=P) w t ty e' i _ hu hi hz b xs.length cap olds (by rw[w9,qR]) (ho b rfl) a' ys.length cp news (by rw[hln,qR]) hn hg (by simp only[Ba]at hs;omega) (growslice_fits hg G4)
    rw[this]
    congr 2
    apply fe (λz=>Obj.cells z e' (0,0))
    apply ia;simp
  ·rw[bp,size_zeroCells,hzs]
 obtain⟨nh,rest,dH,FJ,hc2,apd⟩:=dH
 have hlen:(xs++ys).length=xs.length+ys.length:=aS
 have hd:=Tr.drew hm
 have hon:(olds++news).length=(xs++ys).length*e.size:=by rw[aS,w9,hln,hlen,eJ]
 have So:=Tr.row hd.mem bl e' (e:=e) (cs:=(olds++news++rest).toArray) (l:=xs++ys) (cap:=nh) (by rw[hlen];exact FJ) hc2
  (by rw[jh,aS,hon,apd,hlen,←eJ];congr 1;omega)
  (pI.more ((hro.append w9 hrn).ch hd.ch) (by rw[hon];exact aH _))
 refine⟨_,_,_,_,dH,hd.trans So,?_⟩
 rw[←hlen];simp[updν]
theorem VI(hE:EnvTy P E)(hc:Core c σ a.tmps w M ν){args:Array Operand}{ts:Array TypeId}{t t':TypeId}{x y:Operand}(ho:o.op= .call {callee:= .builtin .append,args,argTypes:=ts})(ha:args.toList=[x,y])(hts:ts.toList=[t,t']){K:gS α}{e:Ty}
  (ht:E.ty t=some (.slice e)) {id:Nat} (h:cond (Nat.beq t t') (se σ.H id (.own e []) (Ob id e (σ.ρ x) (σ.ρ y) σ.H K)) none=some r) (hn:fJ c σ a o w M ν K r next):o.wp P a w next Q:=by
 obtain⟨htt,h1⟩:=cG h
 clear h
 have htt:=fF htt
 subst htt
 obtain⟨bl,h⟩:=mD h1
 clear h1
 have avt:ts= #[t,t]:=by apply ia;simpa using hts
 subst avt
 obtain⟨e',hu,hle⟩:=(hE.ty t _ ht).slice
 obtain⟨i,hi,qR,hz,hby⟩:=hle.base
 have LX:=hc.ev x
 unfold Ob at h
 obtain⟨ys,rd,h,hS⟩:=DS hc.mem (hc.ev y) h
 have akv:(ys=[]∧ ∃a' cp,a.eval y= .slice a' 0 cp)∨(ys≠[]∧ ∃a' cp news,a.eval y= .slice (some a') ys.length cp∧news.length=ys.length*e.size∧(∀j u,news[j]? =some u→w.cell? (a'.add j)=some u)∧pI w M e news ys∧ ∀u∈news,u.oneCell'=true):=by
  by_cases hy:ys=[]
  ·left
   obtain⟨a',cp,hv,_⟩:=hS
   exact⟨hy,a',cp,by rw[hv,hy];rfl⟩
  ·right
   obtain⟨b,off,cp,news,hv,hl,pH,kD,h1⟩:=hS.cells hy
   exact⟨hy,⟨b,off,none⟩,cp,news,hv,hl,λj u hj=>by rw[Addr.add_lit];exact pH j u hj,kD,h1⟩
 split at h
 ·
  rename_i hx
  rw[hx]at LX
  obtain⟨ad,LX⟩:=VR.emp.1 LX
  obtain⟨Ub,h⟩:=cG h
  rw[GF]at Ub
  have Ub:=bD Ub
  rcases akv with⟨rfl,a',cp,Bp⟩|⟨hy,a',cp,news,Bp,hl,pH,kD,h1⟩
  ·refine bc (iT ho ha (by rw[LX,Bp];exact tE hu hi ad 0 0 (aH _) a' cp)) (hn _ _ _ _ _ _ _ h (Tr.nothing hc.mem bl e ad) ?_)
   simp only[VR]
   exact⟨by show cm _ id _ id≠none;rw[ay];simp,by simp[updν]⟩
  ·have Oy:0<ys.length:=pT.2 hy
   obtain⟨v,w',M',ν',dH,gw,hv⟩:=G1 (P:=P) (ty:=o.type) hc.mem bl hu hle (xs:=[]) (ys:=ys) (olds:=[]) (news:=news) (base:=ad) (cap:=0) (cp:=cp) (a':=a') (λ_=>⟨rfl,rfl⟩) (by simp) (λi hi=>absurd hi (by simp)) (λ_ _ j u hj=>by simp at hj)
    hl kD pH (by simpa using Oy) (by simpa using Ub)
   refine bc (iT ho ha (by rw[LX,Bp];exact dH)) (hn _ _ _ _ _ _ _ h gw ?_)
   simp only[VR]
   exact⟨by show cm _ id _ id≠none;rw[ay];simp,hv.symm⟩
 ·
  rename_i j hx
  rw[hx]at LX
  simp only[VR]at LX
  obtain⟨_,LX⟩:=LX
  split at h
  ·rename_i e1 l hj
   obtain⟨e2,h⟩:=bA h
   cases e2
   obtain⟨Ub,h⟩:=cG h
   rw[GF]at Ub
   have Ub:l.length+ys.length<Ba:=bD Ub
   have kN:id≠j:=λe=>by rw[e,hj]at bl;cases bl
   have qx:cm σ.H j (some .gone) id=none:=by rw[az _ _ kN];exact bl
   have R5:=Tr.gone hc.mem j
   have kO:=hc.mem.jQ j _ hj
   simp only[ER]at kO
   rcases kO with⟨rfl,ad,hjv⟩|⟨b,cs,te,cap,hjv,hg,hM,T1,hl,FF,hs,hr⟩
   ·rw[hjv]at LX
    rcases akv with⟨rfl,a',cp,Bp⟩|⟨hy,a',cp,news,Bp,hl,pH,kD,h1⟩
    ·refine bc (iT ho ha (by rw[LX,Bp];exact tE hu hi ad 0 0 (aH _) a' cp)) (hn _ _ _ _ _ _ _ h (R5.trans (Tr.nothing R5.mem qx e ad)) ?_)
     simp only[VR]
     exact⟨by show cm _ id _ id≠none;rw[ay];simp,by simp[updν]⟩
    ·have Oy:0<ys.length:=pT.2 hy
     obtain⟨v,w',M',ν',dH,gw,hv⟩:=G1 (P:=P) (ty:=o.type) R5.mem qx hu hle (xs:=[]) (ys:=ys) (olds:=[]) (news:=news) (base:=ad) (cap:=0) (cp:=cp) (a':=a') (λ_=>⟨rfl,rfl⟩) (by simp) (λi hi=>absurd hi (by simp)) (λ_ _ j u hj=>by simp at hj)
      hl kD pH (by simpa using Oy) (by simpa using Ub)
     refine bc (iT ho ha (by rw[LX,Bp];exact dH)) (hn _ _ _ _ _ _ _ h (R5.trans gw) ?_)
     simp only[VR]
     exact⟨by show cm _ id _ id≠none;rw[ay];simp,hv.symm⟩
   ·rw[hjv]at LX
    have FG:cs.toList.length=cap*e.size:=by rw[bp,hs]
    have Jo:l.length*e.size≤cap*e.size:=kB _ hl
    rcases akv with⟨rfl,a',cp,Bp⟩|⟨hy,a',cp,news,Bp,hln,pH,kD,h1⟩
    ·refine bc (iT ho ha (by rw[LX,Bp];exact tE hu hi _ _ cap hl a' cp)) (hn _ _ _ _ _ M (updν ν id (ν j)) h ?_ ?_)
     ·refine Tr.rename hc.mem hj bl (.inr rfl) ?_
      rw[cA]
      exact hc.mem.jQ j _ hj
     ·simp only[VR]
      exact⟨by show cm _ id _ id≠none;rw[ay];simp,by simp[updν,hjv]⟩
    ·by_cases Bx:l.length+ys.length≤cap
     ·have hmul:(l.length+ys.length)*e.size≤cap*e.size:=kB _ Bx
      rw[eJ]at hmul
      have dH:=Ox (P:=P) (ty:=o.type) hu hi (w:=w) (b:=b) (n:=l.length) (cap:=cap) (m:=ys.length) (cp:=cp) (a':=a') (news:=news) (cs:=cs) hg (by rw[hs,qR]) (by rw[hln,qR]) pH h1 Bx
      rw[qR]at dH
      have ab9:eQ cs.toList (l.length*e.size) news=(cs.toList.take (l.length*e.size)++news)++cs.toList.drop (l.length*e.size+news.length):=rfl
      have hold:pI w M e (cs.toList.take (l.length*e.size)) l:=pI.take hr (aH _)
      have htl:(cs.toList.take (l.length*e.size)).length=l.length*e.size:=by rw[cj];omega
      have aiQ:pI w M e (eQ cs.toList (l.length*e.size) news) (l++ys):=by
       rw[ab9]
       refine pI.more (hold.append htl kD) ?_
       rw[aS,aS,htl,hln,eJ];exact aH _
      have L0:(eQ cs.toList (l.length*e.size) news).length=cap*e.size:=by rw[eM ω];exact FG
      have acm:Tr c σ.H w M ν (cm σ.H j (some (.own e l))) (w.setRow b (eQ cs.toList (l.length*e.size) news).toArray) M ν:=by
       refine Tr.write (e':= .own e l) hc.mem hj trivial trivial (.refl _) (by rw[hjv];simp[fD];omega) hg λKg hk xH=> ?_
       simp only[ER]
       refine .inr ⟨b,_,te,cap,hjv,setRow_heap w b cs _ te _ hg,xH,T1,hl,FF,by rw[jh];exact L0,λk Bq=> ?_⟩
       have:=(aiQ k (by rw[aS];omega)).ch hk
       rw[AJ Bq]at this
       exact this
      rw[CE hj]at acm
      have xG:Tr c σ.H (w.setRow b (eQ cs.toList (l.length*e.size) news).toArray) M ν (cm (cm σ.H j (some .gone)) id (some (.own e (l++ys)))) (w.setRow b (eQ cs.toList (l.length*e.size) news).toArray) M (updν ν id (.slice (some ⟨b,0,none⟩) (l++ys).length cap)):=by
       refine Tr.rename acm.mem hj bl (.inr (by rw[hjv];simp[fD])) ?_
       simp only[ER]
       refine .inr ⟨b,_,te,cap,rfl,setRow_heap w b cs _ te _ hg,hM,T1,by rw[aS];exact Bx,FF,by rw[jh];exact L0,(aiQ.ch acm.ch)⟩
      refine bc (iT ho ha (by rw[LX,Bp];exact dH)) (hn _ _ _ _ _ _ _ h (acm.trans xG) ?_)
      simp only[VR]
      exact⟨by show cm _ id _ id≠none;rw[ay];simp,by simp[updν]⟩
     ·obtain⟨v,w',M',ν',dH,gw,hv⟩:=G1 (P:=P) (ty:=o.type) R5.mem qx hu hle (xs:=l) (ys:=ys) (olds:=cs.toList.take (l.length*e.size)) (news:=news) (base:=some ⟨b,0,none⟩) (cap:=cap) (cp:=cp) (a':=a') (λh=>by cases h)
       (by rw[cj];omega) (pI.take hr (aH _)) (λb' fb k u hk=>by
        cases fb
        rw[Addr.add_lit,cell_of hg]
        rw[mX]at hk
        split at hk
        ·rw[←iH];simpa using hk
        ·cases hk)
       hln kD pH ω Ub
      refine bc (iT ho ha (by rw[LX,Bp];exact dH)) (hn _ _ _ _ _ _ _ h (R5.trans gw) ?_)
      simp only[VR]
      exact⟨by show cm _ id _ id≠none;rw[ay];simp,hv.symm⟩
  ·cases h
 ·cases h
theorem pI.over{e:Ty}{cs zs:List Value}{l1 l2:List e.den}{n:Nat}(h1:pI w M e cs l1)(h2:pI w M e zs l2)(hn:n≤l1.length)(hc:l1.length*e.size≤cs.length)(hz:zs.length=l2.length*e.size)(hs:n*e.size+zs.length≤cs.length):
  pI w M e (eQ cs (n*e.size) zs) (List.take n l1++l2):=by
 intro i hi
 rw[aS,cj,iu hn]at hi
 by_cases eU:i<n
 ·have:=eE (s:=e.size) eU
  rw[FE (.inl this) hs,AJ (by rw[cj];omega),AW]
  exact h1 i ω
 ·have h3:=h2 (i-n) ω
  have Uc:i-n<l2.length:=ω
  have h4:=eE (s:=e.size) Uc
  have h5:i*e.size=n*e.size+(i-n)*e.size:=by rw[←eJ];congr 1;omega
  have h6:((eQ cs (n*e.size) zs).drop (i*e.size)).take e.size=(zs.drop ((i-n)*e.size)).take e.size:=by
   unfold eQ
   have hl:(cs.take (n*e.size)).length=n*e.size:=by rw[cj];omega
   rw[h5,bF,←iJ,mz hl,xc ω,yI (by rw[ec];omega)]
  rw[h6,Gh (by rw[cj];omega)]
  simp only[cj,iu hn]
  exact h3
theorem By{args:Array Operand}{t:TypeId}{x:Operand}{v:Value}{w':World}(ho:o.op= .call {callee:= .builtin .clear,args,argTypes:= #[t]})(ha:args.toList=[x])
  (h:(Builtin.clear_ #[t] o.type #[a.eval x]).run P w= .ok v w'):(execOp a.eval o).run P w= .ok (.value v) w':=by
 obtain⟨cs,hr⟩:=om (P:=P) (ρ:=a.eval) ho (w:=w)
 rw[hr]
 have:args.map a.eval= #[a.eval x]:=by apply ia;simp[ha]
 rw[this]
 simp[builtin,h]
theorem Yy(hE:EnvTy P E)(hc:Core c σ a.tmps w M ν){args:Array Operand}{ts:Array TypeId}{t:TypeId}{x:Operand}(ho:o.op= .call {callee:= .builtin .clear,args,argTypes:=ts})(ha:args.toList=[x])(hts:ts.toList=[t]){K:gS α}{e:Ty}
  (ht:E.ty t=some (.slice e)) (h:zO e (σ.ρ x) σ.H K=some r) (hn:fJ c σ a o w M ν K r next):o.wp P a w next Q:=by
 have hts:ts= #[t]:=by apply ia;simp[hts]
 subst hts
 have hv:=hc.ev x
 unfold zO at h
 split at h
 ·rename_i id e1 lo hx
  obtain⟨e2,h0⟩:=dX h
  clear h
  subst e2
  rw[hx]at hv
  simp only[VR]at hv
  obtain⟨aCJ,ad,n,cap,hnu,hv⟩:=hv
  split at h0
  ·rename_i e3 l bl
   obtain⟨e4,h⟩:=bA h0
   clear h0
   cases e4
   obtain⟨e',hu,hle⟩:=(hE.ty t _ ht).slice
   obtain⟨i,hi,hs,hz,_⟩:=hle.base
   have kO:=hc.mem.jQ id _ bl
   simp only[ER]at kO
   rcases oh lo l.length with eU|L1
   ·rcases kO with⟨rfl,_⟩|⟨b,cs,te,nh,hb,hg,hM,T1,hl,FF,qR,hr⟩
    ·simp at eU
    ·rw[hnu]at hb
     simp only[Value.slice.injEq]at hb
     obtain⟨rfl,rfl,rfl⟩:=hb
     rw[ag ω]at hv
     have hzs:(cr e1 e1.cL).cells.size=e1.size:=by rw[←bp,fK,mF]
     have hzc:Builtin.zeroCells (cr e1 e1.cL).cells (l.length-lo)=madeCells (cr e1 e1.cL).cells ((l.length-lo)*e1.size):=by
      unfold Builtin.zeroCells madeCells;rw[hzs]
     have hzl:(madeCells (cr e1 e1.cL).cells ((l.length-lo)*e1.size)).toList.length=(l.length-lo)*e1.size:=by rw[bp,size_madeCells]
     have CF: ∀u∈(madeCells (cr e1 e1.cL).cells ((l.length-lo)*e1.size)).toList,u.oneCell'=true:=by
      intro u hu
      have hm:u∈(cr e1 e1.cL).cells.toList:=by
       simp only[madeCells,Array.toList_map,cY]at hu
       obtain⟨j,hj,rfl⟩:=hu
       rw[Array.mem_toList_iff,Array.mem_range]at hj
       have h0:0<e1.size:=by
        rcases Nat.eq_zero_or_pos e1.size with h0|h0
        ·rw[h0]at hj;simp at hj
        ·exact h0
       have Bm:j%(cr e1 e1.cL).cells.size<(cr e1 e1.cL).cells.size:=Nat.mod_lt _ ω
       rw[getElem!_pos (cr e1 e1.cL).cells _ Bm]
       exact Array.getElem_mem_toList Bm
      rw[fK]at hm
      exact(Rd.zero w M e1).lL u hm
     have G4:lo*e1.size+(l.length-lo)*e1.size≤cs.size:=by
      rw[qR,←eJ]
      exact kB _ ω
     have w7:=run_storeCells_at (P:=P) b (lo*e1.size) te (madeCells (cr e1 e1.cL).cells ((l.length-lo)*e1.size)).toList 0 cs w hg (by rw[hzl];omega) CF
     simp only[mB]at w7
     obtain⟨m,hm⟩: ∃m,l.length-lo=m+1:=⟨l.length-lo-1,ω⟩
     have dH:(Builtin.clear_ #[t] o.type #[a.eval x]).run P w= .ok (.tuple #[]) (w.setRow b (eQ cs.toList (lo*e1.size) (madeCells (cr e1 e1.cL).cells ((l.length-lo)*e1.size)).toList).toArray):=by
      rw[hv]
      rw[hm]at w7 hzc ⊢
      simp[Builtin.clear_,run_underlying hu,zeroValue,typeInfo,hi,hz,Addr.add_lit,hzc,w7,eQ]
     have gw:=Tr.write (e':= .own e1 (List.take lo l++List.replicate (ℓ l-lo) e1.zero)) (new:=(eQ cs.toList (lo*e1.size) (madeCells (cr e1 e1.cL).cells ((l.length-lo)*e1.size)).toList).toArray) hc.mem bl trivial trivial ⟨rfl,by simp;omega⟩ (by rw[hnu];simp[fD];omega) hg (λKg hk xH=>by
      simp only[ER]
      refine .inr ⟨b,_,te,cap,?_,setRow_heap w b cs _ te _ hg,xH,T1,by simp;omega,FF,?_,?_⟩
      ·rw[hnu];simp;omega
      ·rw[jh,eM (by rw[hzl,bp];exact G4),bp,qR]
      ·have h1:pI w M e1 cs.toList l:=hr
       have h2:=pI.made w M e1 (n:=(l.length-lo)*e1.size) (l:=l.length-lo) (aH _)
       have h3:=pI.over h1 h2 (n:=lo) ω (ck (kB _ hl) (Nat.le_of_eq (by rw[bp,qR]))) (by rw[hzl,c9]) (by rw[hzl,bp];exact G4)
       exact h3.ch hk)
     exact bc (By ho ha dH) (hn _ _ _ _ _ _ _ h gw (by simp[VR]))
   ·
    have Jj:List.take lo l++List.replicate (ℓ l-lo) e1.zero=l:=by
     rw[iG L1,show l.length-lo=0 from by omega];simp
    have hn0:n=l.length:=by
     obtain⟨ad',nh,hh⟩:=ER.G0 (hc.mem.jQ id _ bl)
     rw[hnu]at hh;simp only[Value.slice.injEq]at hh;exact hh.2.1
    have dH:(Builtin.clear_ #[t] o.type #[a.eval x]).run P w= .ok (.tuple #[]) w:=by
     rw[hv,show n-lo=0 from by omega]
     cases(if cap=lo then ad else ad.map (·.add (lo*e1.size)))<;>simp[Builtin.clear_,run_underlying hu]
    have hH:cm σ.H id (some (.own e1 l))=σ.H:=by
     funext j
     by_cases hj:j=id
     ·subst hj;rw[ay,bl]
     ·rw[az _ _ hj]
    refine bc (By ho ha dH) (hn _ _ _ _ _ M ν h ?_ (by simp[VR]))
    show Tr c σ.H w M ν (cm σ.H id (some (.own e1 (List.take lo l++List.replicate (ℓ l-lo) e1.zero)))) w M ν
    rw[Jj,hH]
    exact .refl hc.mem
  ·cases h0
 ·cases h
end VM
end
