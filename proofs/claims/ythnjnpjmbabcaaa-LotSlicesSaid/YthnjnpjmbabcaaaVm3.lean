/- A part of the proof of LotSlices of layer 23: a machine that reads a function of the program as an equation between values. -/
import Derived.Test.YthnjnpjmbabcaaaVm2
import Derived.Great.FillDense
set_option linter.all false
open List renaming length→ℓ
section
namespace VM
open Go
variable{P:Program}{E:Env}{o:Oper}{a:Act}{w:World}{M:Nat→Prop}{ν:Nat→Value}{σ:St}{c:Ctx}{α:Type}{r:α}{next:Act→World→Prop}{Q:Exit→Act→World→Prop}
theorem Ct{b:BinOp}{k k':IntKind}{x y:Int}{t:TypeId}{K:ax→Option α}(h:GY b k x y K=some r):
  ∃z,K (.val (.int k) z)=some r∧(binOp b t (.int k x) (.int k' y)).run P w= .ok (.int k z) w:=by
 unfold GY at h
 split at h
 ·obtain⟨h0,h⟩:=fv h
  rw[lh]at h0
  have h0: ¬y<0:=by simpa using h0
  refine⟨_,h,?_⟩
  rw[so,DV]
  simp[binOp,Op.shift,h0]
 ·obtain⟨h0,h⟩:=fv h
  rw[lh]at h0
  have h0: ¬y<0:=by simpa using h0
  refine⟨_,h,?_⟩
  rw[Ar]
  simp[binOp,Op.shift,h0]
 ·cases h
theorem xg{b:BinOp}{k:IntKind}{x y:Int}{t:TypeId}{K:ax→Option α}(h:ln b k x y K=some r):
  ∃v u,K v=some r∧(binOp b t (.int k x) (.int k y)).run P w= .ok u w∧ ∀H,VR w M H ν v u:=by
 unfold ln at h
 split at h
 ·exact⟨_,_,h,by simp[binOp,Op.intArith,so],λH=> .mkInt _ _⟩
 ·exact⟨_,_,h,by simp[binOp,Op.intArith,so],λH=> .mkInt _ _⟩
 ·exact⟨_,_,h,by simp[binOp,Op.intArith,so],λH=> .mkInt _ _⟩
 ·obtain⟨h0,h⟩:=fv h
  rw[eL]at h0
  have h0: ¬y=0:=by simpa using h0
  exact⟨_,_,h,by simp[binOp,Op.intDiv,so,w3,h0],λH=> .mkInt _ _⟩
 ·obtain⟨h0,h⟩:=fv h
  rw[eL]at h0
  have h0: ¬y=0:=by simpa using h0
  exact⟨_,_,h,by simp[binOp,Op.intDiv,DU,h0],λH=> .mkInt _ _⟩
 ·exact⟨_,_,h,by simp[binOp,Op.intBits,lj],λH=> .mkInt _ _⟩
 ·exact⟨_,_,h,by simp[binOp,Op.intBits,lj],λH=> .mkInt _ _⟩
 ·exact⟨_,_,h,by simp[binOp,Op.intBits,lj],λH=> .mkInt _ _⟩
 ·exact⟨_,_,h,by simp[binOp,Op.intBits,lj],λH=> .mkInt _ _⟩
 ·exact⟨_,.bool (decide (x=y)),h,by simp[binOp,Op.intCmp];rfl,λH=>by rw[eL];exact .lA _⟩
 ·exact⟨_,.bool (!decide (x=y)),h,by simp[binOp,Op.intCmp];rfl,λH=>by rw[eL];exact .lA _⟩
 ·exact⟨_,_,h,by simp[binOp,Op.intCmp,lh],λH=> .lA _⟩
 ·exact⟨_,_,h,by simp[binOp,Op.intCmp,jR],λH=> .lA _⟩
 ·exact⟨_,_,h,by simp[binOp,Op.intCmp,lh],λH=> .lA _⟩
 ·exact⟨_,_,h,by simp[binOp,Op.intCmp,jR],λH=> .lA _⟩
 ·cases h
theorem Cu{t:Option Ty}{op:BinOp}{τ:Ty}{x:τ.den}{υ:Ty}{y:υ.den}{K:ax→Option α}(h:tE t op τ x υ y K=some r):
  (∃(k k':IntKind) (m n:Int),ax.val τ x= .val (.int k) m∧ax.val υ y= .val (.int k') n∧(cond (GZ op) (GY op k m n K) (if k=k' then ln op k m n K else none))=some r)∨
  (∃z:τ.den,ax.val υ y= .val τ z∧t=some τ∧τ.comparable=true∧((op= .eql∧K (.val .bool (kW τ x z))=some r)∨(op= .neq∧K (.val .bool (!kW τ x z))=some r))):=by
 unfold tE at h
 split at h
 ·exact .inl ⟨_,_,_,_,rfl,rfl,h⟩
 ·right
  split at h
  ·cases h
  ·obtain⟨e,h1⟩:=bB h
   clear h
   subst e
   obtain⟨hc,h⟩:=aG h1
   clear h1
   split at h
   ·obtain⟨e,h1⟩:=aw h
    subst e
    exact⟨_,rfl,rfl,hc,.inl ⟨rfl,h1⟩⟩
   ·obtain⟨e,h1⟩:=aw h
    subst e
    exact⟨_,rfl,rfl,hc,.inr ⟨rfl,h1⟩⟩
   ·cases h
theorem rC{t:TypeId}(hu:P.underlying t=some .bool)(x y:Bool)(w:World):(Op.equal t (.bool x) (.bool y)).run P w= .ok (x==y) w:=by
 unfold Op.equal
 obtain⟨n,hn⟩: ∃n,Op.maxDepth=n+1:=⟨9999,rfl⟩
 rw[hn]
 simp[Op.equalIn,run_underlying hu]
theorem run_eql_bool{t:TypeId}(hu:P.underlying t=some .bool)(x y:Bool):(binOp .eql t (.bool x) (.bool y)).run P w= .ok (.bool (x==y)) w:=by
 simp[binOp,rC hu]
theorem run_neq_bool{t:TypeId}(hu:P.underlying t=some .bool)(x y:Bool):(binOp .neq t (.bool x) (.bool y)).run P w= .ok (.bool (!(x==y))) w:=by
 simp[binOp,rC hu]
theorem Ng(x y:ByteArray):(x.toList==y.toList)=decide (x.toList=y.toList):=by
 rw[pc];simp
theorem yT{t:TypeId}(x y:ByteArray):(binOp .eql t (.string x) (.string y)).run P w= .ok (.bool (decide (x.toList=y.toList))) w:=by
 simp[binOp,Op.stringOp,Ng]
theorem yU{t:TypeId}(x y:ByteArray):(binOp .neq t (.string x) (.string y)).run P w= .ok (.bool (!decide (x.toList=y.toList))) w:=by
 simp[binOp,Op.stringOp,Ng]
theorem D9(hE:EnvTy P E)(hc:Core c σ a.tmps w M ν){b:BinOp}{t t':TypeId}{x y:Operand}(ho:o.op= .binOp b t x y t'){K:cN α}
  (h:yE (σ.ρ x) (fun τ x=>yE (σ.ρ y) fun υ y=>tE (E.ty t) b τ x υ y λv=>K v [] [])=some r) (hn:cr c σ a o w M ν K r next):o.wp P a w next Q:=by
 have hx:=hc.ev x
 have hy:=hc.ev y
 unfold yE at h
 split at h
 ·rename_i τ x' J5
  split at h
  ·rename_i υ y' U2
   rw[J5]at hx;rw[U2]at hy
   rcases Cu h with⟨k,k',m,n,e1,e2,h1⟩|⟨z,e2,ht,QT,h1⟩
   ·rw[e1]at hx;rw[e2]at hy
    have hx:=hx.int
    have hy:=hy.int
    cases hs:GZ b
    ·rw[hs]at h1
     replace h1:(if k=k' then ln b k m n (λv=>K v [] [])else none)=some r:=h1
     split at h1
     ·rename_i hk;subst hk
      obtain⟨v,u,hK,bk,U3⟩:=xg (P:=P) (w:=w) (M:=M) (ν:=ν) (t:=t) h1
      exact aq (iq ho (by rw[hx,hy];exact gY w) (by rw[hx,hy];exact bk)) (hn _ [] [] _ _ _ _ hK (.refl hc.mem) (U3 _))
     ·cases h1
    ·rw[hs]at h1
     replace h1:GY b k m n (λv=>K v [] [])=some r:=h1
     obtain⟨z,hK,bk⟩:=Ct (P:=P) (w:=w) (k':=k') (t:=t) h1
     exact aq (iq ho (by rw[hx,hy];exact gY w) (by rw[hx,hy];exact bk)) (hn _ [] [] _ _ _ _ hK (.refl hc.mem) (.mkInt _ _))
   ·rw[e2]at hy
    have key:(eqGuard b t x y (a.eval x) (a.eval y)).run P w= .ok () w∧(binOp .eql t (a.eval x) (a.eval y)).run P w= .ok (.bool (kW τ x' z)) w∧(binOp .neq t (a.eval x) (a.eval y)).run P w= .ok (.bool (!kW τ x' z)) w:=by
     by_cases tI:τ.isAgg=true
     ·simp only[VR]at hx hy
      exact hE.eq t τ ht QT tI w M _ _ _ _ b x y hx hy
     ·have hl:=hE.ty t τ ht
      cases τ with
      |int k=>
       rw[hx.int,hy.int]
       refine⟨gY w,?_,?_⟩
       ·simp[binOp,Op.intCmp,kW,eL];rfl
       ·simp[binOp,Op.intCmp,kW,eL];rfl
      |bool=>rw[hx.bool,hy.bool];exact⟨qI w,run_eql_bool hl.bool _ _,run_neq_bool hl.bool _ _⟩
      |str=>rw[hx.str,hy.str];exact⟨su w,by rw[yT];simp[kW,tD],by rw[yU];simp[kW,tD]⟩
      |slice e=>simp[Ty.comparable]at QT
      |unit=>simp[Ty.isAgg]at tI
      |pair _ _=>simp[Ty.isAgg]at tI
      |arr _ _=>simp[Ty.isAgg]at tI
    obtain⟨hg,h2,h3⟩:=key
    rcases h1 with⟨rfl,hK⟩|⟨rfl,hK⟩
    ·exact aq (iq ho hg h2) (hn _ [] [] _ _ _ _ hK (.refl hc.mem) (.lA _))
    ·exact aq (iq ho hg h3) (hn _ [] [] _ _ _ _ hK (.refl hc.mem) (.lA _))
  ·cases h
 ·cases h
theorem Ha(hc:Core c σ a.tmps w M ν){u:UnOp}{t:TypeId}{x:Operand}(ho:o.op= .unOp u t x){K:cN α}
  (h:Ce u (σ.ρ x) (λv=>K v [] [])=some r) (hn:cr c σ a o w M ν K r next):o.wp P a w next Q:=by
 have hx:=hc.ev x
 unfold Ce at h
 split at h
 ·rename_i k n J5
  rw[J5]at hx
  refine aq (ng ho (v:= .int k (k.wrap (0-n))) ?_) (hn _ [] [] _ _ _ _ h (.refl hc.mem) (by rw[so];exact .mkInt _ _))
  rw[hx.int];simp[Op.unary,Op.intArith]
 ·rename_i k n J5
  rw[J5]at hx
  refine aq (ng ho (v:= .int k (ik .xor k (if k.signed then-1 else k.max) n)) ?_) (hn _ [] [] _ _ _ _ h (.refl hc.mem) (.mkInt _ _))
  rw[hx.int,lj];simp[Op.unary,Op.intBits]
 ·rename_i b J5
  rw[J5]at hx
  refine aq (ng ho (v:= .bool (!b)) ?_) (hn _ [] [] _ _ _ _ h (.refl hc.mem) (.lA _))
  rw[hx.bool];simp[Op.unary]
 ·cases h
theorem fq{args:Array Operand}{ts:Array TypeId}{t:TypeId}{x:Operand}{n:Nat}(ho:o.op= .call {callee:= .builtin .len,args,argTypes:=ts})(ha:args.toList=[x])(YH:ts.toList.head?=some t)
  (hl: ∀ty,(Builtin.len_ ts ty #[a.eval x]).run P w= .ok (goInt n) w):(execOp a.eval o).run P w= .ok (.value (.int .i64 n)) w:=by
 obtain⟨cs,hr⟩:=fN (P:=P) (ρ:=a.eval) ho (w:=w)
 rw[hr]
 have:args.map a.eval= #[a.eval x]:=by apply dt;simp[ha]
 rw[this]
 simp[builtin,hl,goInt]
theorem Hb{ts:Array TypeId}{t ty:TypeId}(ht:ts[0]? =some t)(hu:P.underlying t=some .string)(s:ByteArray):(Builtin.len_ ts ty #[.string s]).run P w= .ok (goInt s.size) w:=by
 simp[Builtin.len_,ht,run_underlying hu]
theorem Hc{ts:Array TypeId}{t ty e:TypeId}{n:Nat}(ht:ts[0]? =some t)(hu:P.underlying t=some (.array n e))(v:Value):(Builtin.len_ ts ty #[v]).run P w= .ok (goInt n) w:=by
 simp[Builtin.len_,ht,run_underlying hu]
theorem kI{ts:Array TypeId}{t ty e:TypeId}(ht:ts[0]? =some t)(hu:P.underlying t=some (.slice e))(ad:Option Addr)(n cp:Nat):(Builtin.len_ ts ty #[.slice ad n cp]).run P w= .ok (goInt n) w:=by
 simp[Builtin.len_,ht,run_underlying hu]
theorem ER.tU{e:Ty}{l:List e.den}{v:Value}(h:ER w M v (.own e l)): ∃ad cp,v= .slice ad l.length cp:=by
 simp only[ER]at h
 rcases h with⟨rfl,a,hv⟩|⟨b,cs,t,cap,hv,_⟩
 ·exact⟨a,0,hv⟩
 ·exact⟨_,cap,hv⟩
theorem ER.Ea{e:Ty}{l:List e.den}{v:Value}(h:ER w M v (.gr e l)): ∃ad cp,v= .slice ad l.length cp:=by
 simp only[ER]at h
 have h:=h.1
 simp only[Rd,cc,cn]at h
 obtain⟨a,cap,hv,_⟩:=h
 exact⟨a,cap,hv⟩
theorem J6(hE:EnvTy P E)(hc:Core c σ a.tmps w M ν){args:Array Operand}{ts:Array TypeId}{x:Operand}(ho:o.op= .call {callee:= .builtin .len,args,argTypes:=ts})(ha:args.toList=[x]){K:cN α}{τ:Ty}
  (ht:(ts.toList.head?).bind E.ty=some τ) (h:yF τ (σ.ρ x) σ.H K=some r) (hn:cr c σ a o w M ν K r next):o.wp P a w next Q:=by
 obtain⟨t,rD,Cs⟩:=la.1 ht
 have IN:ts[0]? =some t:=by rw[←rD,←cM,yv]
 have hl:=hE.ty t τ Cs
 have hv:=hc.ev x
 unfold yF at h
 split at h
 ·rename_i e e' l hx
  obtain⟨_,hu,_⟩:=hl.slice
  rw[hx]at hv
  simp only[VR]at hv
  have hv:=V.slice.1 hv
  simp only[Rd,cc,cn]at hv
  obtain⟨ad,cap,hv,_⟩:=hv
  refine aq (fq ho ha rD (n:=ℓ l) λty=>by rw[hv];exact kI IN hu _ _ _) (hn _ [] [] _ _ _ _ h (.refl hc.mem) (.mkInt _ _))
 ·rename_i n e n' e' l hx
  obtain⟨_,hu,_⟩:=hl.arr
  refine aq (fq ho ha rD (n:=n) λty=>Hc IN hu _) (hn _ [] [] _ _ _ _ h (.refl hc.mem) (.mkInt _ _))
 ·rename_i s hx
  rw[hx]at hv
  refine aq (fq ho ha rD (n:=ByteArray.size s) λty=>by rw[hv.str];exact Hb IN hl.str _) (hn _ [] [] _ _ _ _ h (.refl hc.mem) (.mkInt _ _))
 ·rename_i e hx
  obtain⟨_,hu,_⟩:=hl.slice
  rw[hx]at hv
  simp only[VR]at hv
  obtain⟨ad,hv⟩:=hv
  refine aq (fq ho ha rD (n:=0) λty=>by rw[hv];exact kI IN hu _ _ _) (hn _ [] [] _ _ _ _ h (.refl hc.mem) (.mkInt _ _))
 ·rename_i e id hx
  obtain⟨_,hu,_⟩:=hl.slice
  rw[hx]at hv
  simp only[VR]at hv
  split at h
  ·rename_i e' l hid
   obtain⟨ad,cap,hh⟩:=(hc.mem.dd id _ hid).tU
   refine aq (fq ho ha rD (n:=l.length) λty=>by rw[hv.2,hh];exact kI IN hu _ _ _) (hn _ [id] [] _ _ _ _ h (.refl hc.mem) (.mkInt _ _))
  ·rename_i e' l hid
   obtain⟨ad,cap,hh⟩:=(hc.mem.dd id _ hid).Ea
   refine aq (fq ho ha rD (n:=l.length) λty=>by rw[hv.2,hh];exact kI IN hu _ _ _) (hn _ [id] [] _ _ _ _ h (.refl hc.mem) (.mkInt _ _))
  ·cases h
 ·cases h
theorem yV{H:Nat→Option ar}(up:Bool): ∀(xs:List ax) (x:ax) (v:Value) (vs:List Value) (K:ax→Option α),VR w M H ν x v→dF w M H ν xs vs→Gy up x xs K=some r→
  ∃x' v',K x'=some r∧(vs.foldlM (if up then Builtin.max2 else Builtin.min2) v).run P w= .ok v' w∧VR w M H ν x' v'
 |[],x,v,[],K,hx,_,h=>⟨x,v,h,by simp,hx⟩
 |[],_,_,_::_,_,_,hs,_=>by simp[dF]at hs
 |_::_,_,_,[],_,_,hs,_=>by simp[dF]at hs
 |y::xs,x,v,u::vs,K,hx,hs,h=>by
  simp only[dF]at hs
  obtain⟨hy,hs⟩:=hs
  unfold Gy at h
  obtain⟨k,m,e1,h1⟩:=fO h
  obtain⟨k',n,e2,h2⟩:=fO h1
  clear h h1
  split at h2
  ·rename_i hk
   subst hk
   rw[e1]at hx;rw[e2]at hy
   have hx:=hx.int
   have hy:=hy.int
   obtain⟨x',v',hK,bk,hV⟩:=yV up xs _ (.int k (cond up (mx m n) (mn m n))) vs K (.mkInt _ _) hs h2
   refine⟨x',v',hK,?_,hV⟩
   rw[List.foldlM_cons,Sem.run_bind]
   have:((if up then Builtin.max2 else Builtin.min2) v u).run P w= .ok (.int k (cond up (mx m n) (mn m n))) w:=by
    rw[hx,hy]
    cases up
    ·simp[Builtin.min2,MU]
    ·simp[Builtin.max2,MT]
   rw[this]
   exact bk
  ·cases h2
theorem IP(hc:Core c σ a.tmps w M ν)(up:Bool){args:Array Operand}{ts:Array TypeId}{x:Operand}{xs:List Operand}(ho:o.op= .call {callee:= .builtin (if up then .max else .min),args,argTypes:=ts})(ha:args.toList=x::xs){K:cN α}
  (h:Gy up (σ.ρ x) (xs.map σ.ρ) (λv=>K v [] [])=some r) (hn:cr c σ a o w M ν K r next):o.wp P a w next Q:=by
 obtain⟨x',v',hK,bk,hV⟩:=yV (P:=P) up (xs.map σ.ρ) (σ.ρ x) (a.eval x) (xs.map a.eval) _ (hc.ev x) (hc.PV xs) h
 refine aq ?_ (hn _ [] [] _ _ _ _ hK (.refl hc.mem) hV)
 obtain⟨cs,hr⟩:=fN (P:=P) (ρ:=a.eval) ho (w:=w)
 rw[hr]
 have hm:(args.map a.eval).toList=a.eval x::xs.map a.eval:=by simp[ha]
 cases up
 ·simp only[dq,c7,builtin,Builtin.min_,hm,Sem.run_bind]at bk ⊢
  rw[bk];simp
 ·simp only[dv,builtin,Builtin.max_,hm,Sem.run_bind]at bk ⊢
  rw[bk];simp
theorem vH{ρ:Operand→Value}{t:TypeId}{x i:Operand}(ho:o.op= .index t x i){k:IntKind}{n:Int}{s:ByteArray}
  (hu:P.underlying t=some .string) (hx:ρ x= .string s) (hi:ρ i= .int k n) (h0:0≤n) (h1:n<(s.size:Int)):
  (execOp ρ o).run P w= .ok (.value (.int .u8 ((s.data.getD n.toNat 0).toNat:Int))) w:=by
 have cy:n.toNat<s.size:=ω
 have hs:s[n.toNat]? =some (s[n.toNat]'cy):=by simp[cy]
 have he:s[n.toNat]'cy=s.data.getD n.toNat 0:=by
  have oB:n.toNat<s.data.size:=cy
  rw[Array.getD,dif_pos oB];rfl
 simp[execOp,ho,hx,hi,Instr.index,asIntOf,run_underlying hu,h0,hs,he]
theorem Eb(hE:EnvTy P E)(hc:Core c σ a.tmps w M ν){t:TypeId}{x i:Operand}(ho:o.op= .index t x i){K:cN α}{τ:Ty}(ht:E.ty t=some τ)
  (h:m7 τ (σ.ρ x) (σ.ρ i) (λv=>K v [] [])=some r) (hn:cr c σ a o w M ν K r next):o.wp P a w next Q:=by
 unfold m7 at h
 obtain⟨k,n,hi,h2⟩:=fO h
 clear h
 have h:=h2
 clear h2
 have yR:=hc.ev i
 rw[hi]at yR
 have yR:=yR.int
 have hv:=hc.ev x
 have lE:=hE.ty t τ ht
 split at h
 ·rename_i len e υ l hx
  obtain⟨e',xZ,hle⟩:=lE.arr
  obtain⟨e1,h⟩:=aw h
  subst e1
  obtain⟨gu,h⟩:=aG h
  obtain⟨h0,h1⟩:=jK gu
  rw[hx]at hv
  simp only[VR]at hv
  obtain⟨cs,hu,hr⟩:=hv.agg rfl
  have jV:=hr.idx (i:=n.toNat) ω
  refine aq (vG ho xZ hle hu yR h0 h1 jV) (hn _ [] [] _ _ _ _ h (.refl hc.mem) ?_)
  simp only[VR]
  exact V.aC jV
 ·rename_i s hx
  obtain⟨gu,h⟩:=aG h
  obtain⟨h0,h1⟩:=jK gu
  rw[hx]at hv
  refine aq (vH ho lE.str hv.str yR h0 h1) (hn _ [] [] _ _ _ _ h (.refl hc.mem) (.mkInt _ _))
 ·cases h
theorem eU(τ:Ty):τ.aL.length=τ.size:=(Rd.zero default (λ_=>False) τ).length
theorem sx{z:Array Value}{n i s:Nat}(hz:z.size=s)(hi:i*s+s≤n):((madeCells z n).toList.drop (i*s)).take s=z.toList:=by
 apply mP
 intro j
 rw[ff]
 split
 ·rename_i hj
  rw[fg,cM,cM]
  simp only[madeCells,Array.getElem?_map]
  rw[Array.getElem?_range,af ω]
  simp only[Option.map_some]
  have:(i*s+j)%z.size=j:=by rw[hz,pq,Nat.mul_add_mod,Nat.mod_eq_of_lt hj]
  rw[this,ym ω,getElem!_pos z j ω]
 ·rename_i hj
  rw[cM,yu ω]
theorem gT.made(w:World)(M:Nat→Prop)(e:Ty){n l:Nat}(h:l*e.size≤n):gT w M e (madeCells (aC e e.aL).cells n).toList (List.replicate l e.zero):=by
 intro i hi
 rw[a8]at hi
 have:=bH (s:=e.size) hi
 rw[sx (by rw[←az,ct,eU]) ω,ct,o3]
 exact Rd.zero w M e
theorem kJ{ρ:Operand→Value}{t:TypeId}{x y:Operand}(ho:o.op= .makeSlice t x y){v:Value}{w':World}(h:(Instr.makeSlice t (ρ x) (ρ y)).run P w= .ok v w'):(execOp ρ o).run P w= .ok (.value v) w':=by
 simp[execOp,ho,h]
theorem xh(hE:EnvTy P E)(hc:Core c σ a.tmps w M ν){t:TypeId}{x y:Operand}(ho:o.op= .makeSlice t x y){K:cN α}{e:Ty}(ht:E.ty t=some (.slice e)){id:Nat}
  (h:mE (σ.ρ x) (λ_ l=>mE (σ.ρ y) λ_ c=>cond (gU l c)
   (il σ.H id (.own e []) (K (.ref id) [id] [(id,some (.own e (List.replicate l.toNat e.zero)))])) none)=some r) (hn:cr c σ a o w M ν K r next):o.wp P a w next Q:=by
 obtain⟨k,l,hx,h1⟩:=fO h
 obtain⟨k',n,hy,h2⟩:=fO h1
 clear h h1
 obtain⟨hk,h⟩:=aG h2
 obtain⟨hid,h⟩:=ej h
 rw[qD]at hk
 obtain⟨h0,h1,h3⟩:=bs hk
 simp only[py]at h3
 obtain⟨e',hu,hle⟩:=(hE.ty t _ ht).slice
 obtain⟨i,hi,hs,hz,hb⟩:=hle.base
 have vv:=hc.ev x
 have mh:=hc.ev y
 rw[hx]at vv;rw[hy]at mh
 have tV:(i.bytes:Int)*n≤281474976710656:=by
  have h4:(i.bytes:Int)≤2048:=ω
  have:(i.bytes:Int)*n≤2048*n:=kY h4 ω
  omega
 have bk:=run_make (P:=P) w t e' i _ hu hi hz k k' l n h0 h1 tV ω
 have hlen:(List.replicate l.toNat e.zero).length=l.toNat:=a8
 have cI:=Tr.row hc.mem hid e' (e:=e) (cs:=madeCells (aC e e.aL).cells (n.toNat*i.size)) (l:=List.replicate l.toNat e.zero) (cap:=n.toNat) (by rw[hlen];omega) (by simp[maxLen];omega)
  (by rw[size_madeCells,hs]) (gT.made w M e (pj ω ω))
 refine aq (kJ ho (by rw[vv.int,mh.int];exact bk)) (hn _ _ _ _ _ _ _ h cI ?_)
 simp only[VR]
 exact⟨by show au σ.H id _ id≠none;rw[aa];simp,by simp[updν]⟩
theorem Ec(off:Nat)(new cs:Array Value)(h:off+new.size≤cs.size):
  (new.zipIdx.foldl (λcs (x:Value×Nat)=>cs.setIfInBounds (off+x.2) x.1) cs)=(bG cs.toList off new.toList).toArray:=by
 have h1:new.zipIdx.foldl (λcs (x:Value×Nat)=>cs.setIfInBounds (off+x.2) x.1) cs=(new.toList.zipIdx 0).foldl (λcs (x:Value×Nat)=>cs.setIfInBounds (off+x.2) x.1) cs:=by
  rw[←Array.foldl_toList,Array.toList_zipIdx]
 rw[h1]
 obtain⟨hs,hk⟩:=Great.foldl_set off new.toList 0 cs
 apply Array.ext_getElem?
 intro k
 rw[hk k,←cM (xs:=cs)]
 have hl:new.toList.length=new.size:=az
 have hc:cs.toList.length=cs.size:=az
 unfold bG
 rw[mK]
 by_cases h2:k<off
 ·rw[ag ω,bq,ic (by rw[aT];omega),List.getElem?_take_of_lt h2]
 ·by_cases h3:k<off+new.size
  ·rw[af ω,ic (by rw[aQ,aT];omega),ib (by rw[aT];omega),aT]
   congr 1
   omega
  ·rw[ag ω,ib (by rw[aQ,aT];omega),aQ,aT,fg]
   congr 1
   omega
theorem nP{place:Nat→Option (Nat×Nat)}{cs:Array Value}{i:Nat}{v:Value}{rest:List (Nat×Value)}{off s:Nat}(hp:place i=some (off,s))(hs:v.cells.size=s)(h:off+s≤cs.size):
  Instr.fill place cs ((i,v)::rest)=Instr.fill place (bG cs.toList off v.cells.toList).toArray rest:=by
 have h1: ¬(decide (v.cells.size≠s)||decide (off+v.cells.size>cs.size))=true:=by simp[hs];omega
 conv=>lhs;unfold Instr.fill
 rw[hp]
 simp only
 rw[ag h1]
 congr 1
 exact Ec off v.cells cs ω
theorem iX(a:Act)(ps:Array (Nat×Operand)):(ps.map λ(i,x)=>(i,a.eval x)).toList=ps.toList.map λp=>(p.1,a.eval p.2):=by
 rw[Array.toList_map]
def PR(w:World)(M:Nat→Prop)(H:Nat→Option ar)(ν:Nat→Value):List (Nat×ax)→List (Nat×Value)→Prop
 |[],[]=>True
 |p::ps,q::qs=>p.1=q.1∧VR w M H ν p.2 q.2∧PR w M H ν ps qs
 |_,_=>False
theorem PR.aK{w':World}{M':Nat→Prop}{H H':Nat→Option ar}{ν':Nat→Value}(k:bJ w M w' M')(g:dM H ν H' ν'): ∀{ps:List (Nat×ax)} {qs:List (Nat×Value)},PR w M H ν ps qs→PR w' M' H' ν' ps qs
 |[],[],_=>trivial
 |_::_,_::_,h=>⟨h.1,h.2.1.aK k g,PR.aK k g h.2.2⟩
 |[],_::_,h=>h.elim
 |_::_,[],h=>h.elim
theorem Core.pr(hc:Core c σ a.tmps w M ν): ∀ps:List (Nat×Operand),PR w M σ.H ν (ps.map λp=>(p.1,σ.ρ p.2)) (ps.map λp=>(p.1,a.eval p.2))
 |[]=>trivial
 |p::ps=>⟨rfl,hc.ev p.2,hc.pr ps⟩
theorem rE{e:Ty}{n:Nat}{H:Nat→Option ar}: ∀(ps:List (Nat×ax)) (qs:List (Nat×Value)) (H1:Nat→Option ar) (M:Nat→Prop) (l:List e.den) (cs:Array Value) (rd:List Nat) (ups:dh) (K:List e.den→List Nat→dh→Option α),
  Fz H H1→Mem c H1 w M ν→PR w M H1 ν ps qs→l.length=n→cs.size=n*e.size→gT w M e cs.toList l→H1=aN H ups→m0 e H n ps l rd ups K=some r→
  ∃l' nK dy M' cs',K l' nK dy=some r∧Tr c H1 w M ν (aN H dy) w M' ν∧Fz H (aN H dy)∧l'.length=n∧cs'.size=n*e.size∧gT w M' e cs'.toList l'∧
   Instr.fill (λi=>some (i*e.size,e.size)) cs qs=some cs':=by
 intro ps
 induction ps with
 |nil=>
  intro qs H1 M l cs rd ups K hz hm hp hl hs hr hH h
  cases qs with
  |cons _ _=>exact hp.elim
  |nil=>exact⟨l,rd,ups,M,cs,h,hH▸Tr.refl hm,hH▸hz,hl,hs,hr,rfl⟩
 |cons p ps ih=>
  intro qs H1 M l cs rd ups K hz hm hp hl hs hr hH h
  cases qs with
  |nil=>exact hp.elim
  |cons q qs=>
   obtain⟨h1,h2,h3⟩:=hp
   unfold m0 at h
   obtain⟨hb,h⟩:=aG h
   have cy:p.1<n:=by simpa [pw]using hb
   obtain⟨y,Ed,qN,M1,h,cI,hV,DH,_⟩:=eh hz hm h2 h
   have hlen:(q.2.cells).size=e.size:=by rw[←az];exact hV.cells.length
   have hmul:=bH (s:=e.size) cy
   have iW:=gT.set (hr.aK cI.aK) (by rw[hl,az,hs];exact aB _) (i:=p.1) ω hV.cells
   obtain⟨l',nK,dy,M',cs',hK,AA,Aj,vr,Nh,jV,hf⟩:=ih qs (aN H1 qN) M1 (l.set p.1 y) (bG cs.toList (p.1*e.size) q.2.cells.toList).toArray (Ed++rd) (ups++qN) K DH cI.mem (h3.aK cI.aK cI.goes)
    (by rw[aY];exact hl) (by rw[dr,bD (by rw[az,az];omega),az,hs]) iW (by rw[bT,hH]) h
   refine⟨l',nK,dy,M',cs',hK,cI.trans AA,Aj,vr,Nh,jV,?_⟩
   rw[nP (off:=p.1*e.size) (s:=e.size) (by rw[h1]) hlen ω]
   exact hf
theorem xi{τ:Ty}{H:Nat→Option ar}{place:Nat→Option (Nat×Nat)}(GC: ∀(x:τ.den) n υ y o,rq τ x n υ y o→place n=some (o,υ.size)):
  ∀(ps:List (Nat×ax)) (qs:List (Nat×Value)) (H1:Nat→Option ar) (M:Nat→Prop) (x:τ.den) (cs:Array Value) (rd:List Nat) (ups:dh) (K:τ.den→List Nat→dh→Option α),
  Fz H H1→Mem c H1 w M ν→PR w M H1 ν ps qs→Rd w M τ cs.toList x→H1=aN H ups→eN τ H ps x rd ups K=some r→
  ∃x' nK dy M' cs',K x' nK dy=some r∧Tr c H1 w M ν (aN H dy) w M' ν∧Fz H (aN H dy)∧Rd w M' τ cs'.toList x'∧Instr.fill place cs qs=some cs'∧
   ∀m υ,n4 τ m=some υ→(ps.all λp=> !(Nat.beq p.1 m))=true→(cs'.toList.drop (cH τ m)).take υ.size=(cs.toList.drop (cH τ m)).take υ.size:=by
 intro ps
 induction ps with
 |nil=>
  intro qs H1 M x cs rd ups K hz hm hp hr hH h
  cases qs with
  |cons _ _=>exact hp.elim
  |nil=>exact⟨x,rd,ups,M,cs,h,hH▸Tr.refl hm,hH▸hz,hr,rfl,λ_ _ _ _=>rfl⟩
 |cons p ps ih=>
  intro qs H1 M x cs rd ups K hz hm hp hr hH h
  cases qs with
  |nil=>exact hp.elim
  |cons q qs=>
   obtain⟨h1,h2,h3⟩:=hp
   unfold eN at h
   obtain⟨υ,y0,of,hf,h⟩:=gG h
   obtain⟨y,Ed,qN,M1,h,cI,hV,DH,_⟩:=eh hz hm h2 h
   obtain⟨υ',y',o',k',n9,dz,kH⟩:=ei h
   obtain⟨rfl,rfl⟩:=n9.eq
   obtain⟨rfl,rfl⟩:=hf.eq
   obtain⟨e1,pO⟩:=aw dz
   obtain⟨x',jJ,_,eJ⟩:=kH _ _ pO
   have hlen:(q.2.cells).size=(jr τ p.1).size:=by rw[←az];exact hV.cells.length
   have hb:=hf.bound
   have tP:=hr.length
   rw[az]at tP
   obtain⟨x2,nK,dy,M',cs',hK,AA,Aj,jV,wo,Ee⟩:=ih qs (aN H1 qN) M1 x' (bG cs.toList (cH τ p.1) q.2.cells.toList).toArray (Ed++rd) (ups++qN) K DH cI.mem (h3.aK cI.aK cI.goes)
    (eJ w M1 _ _ (hr.aK cI.aK) hV.cells) (by rw[bT,hH]) jJ
   refine⟨x2,nK,dy,M',cs',hK,cI.trans AA,Aj,jV,?_,λm υ dz fB=> ?_⟩
   ·rw[nP (off:=cH τ p.1) (s:=(jr τ p.1).size) (by rw[←h1];exact GC _ _ _ _ _ hf) hlen ω]
    exact wo
   ·rw[pn,aV]at fB
    rw[Ee m υ dz fB.2]
    obtain⟨y2,o2,QU⟩:=ef dz x
    obtain⟨e3,e4⟩:=QU.eq
    subst e3 e4
    have dT:p.1≠m:=λe=>by have:=fB.1;rw[e,gC]at this;cases this
    have IJ:=hf.apart QU dT
    have lz:=QU.bound
    show((bG cs.toList (cH τ p.1) q.2.cells.toList).drop _).take _=_
    rw[sN (by rw[az];omega) (by rw[az,az];omega)]
theorem cL.places: ∀(τ:Ty) (fs:Array Field) (n off:Nat),cL P τ (.inr (fs,n,off))→
  ∃ps,(fs.toList.drop n).mapM (λf=>(P.info? f.type).map λi=>(f.offset,i.size))=some ps∧ ∀(x:τ.den) m υ y o,rq τ x m υ y o→ps[m]? =some (off+o,υ.size)
 | .unit,fs,n,off,h=>by
  simp only[cL]at h
  refine⟨[],?_,λx m υ y o hf=>by cases hf⟩
  rw[fa (by rw[az];omega)];rfl
 | .pair t b,fs,n,off,h=>by
  simp only[cL]at h
  obtain⟨f,hf,ho,ha,hb⟩:=h
  obtain⟨ps,vx,wo⟩:=cL.places b fs (n+1) (off+t.size) hb
  obtain⟨i,hi,hs,_⟩:=(show dY P t f.type from ha).base
  have cy:n<fs.toList.length:=by rw[az];exact(ez.1 hf).1
  have U4:fs.toList[n]=f:=by rw[o6];exact(ez.1 hf).2
  refine⟨(off,t.size)::ps,?_,λx m υ y o n9=> ?_⟩
  ·rw[kZ cy,pk,vx,U4,hi]
   simp[ho,hs]
  ·cases n9 with
   |here=>simp
   |there _ h'=>simp[wo _ _ _ _ _ h',gB]
 | .int _,_,_,_,h| .bool,_,_,_,h| .str,_,_,_,h| .slice _,_,_,_,h| .arr _ _,_,_,_,h=>by simp[cL]at h
theorem dY.places{τ:Ty}{t:TypeId}(h:dY P τ t)(ha:τ.isAgg=true)(hn: ∀n e,τ≠ .arr n e):
  ∃fs ps,P.underlying t=some (.struct fs)∧fs.toList.mapM (λf=>(P.info? f.type).map λi=>(f.offset,i.size))=some ps∧ ∀(x:τ.den) m υ y o,rq τ x m υ y o→ps[m]? =some (o,υ.size):=by
 cases τ with
 |unit=>
  simp only[dY,cL]at h
  obtain⟨_,fs,hu,hs⟩:=h
  refine⟨fs,[],hu,?_,λx m υ y o hf=>by cases hf⟩
  have:fs.toList=[]:=ia (by rw[az];exact hs)
  rw[this];rfl
 |pair t' b=>
  simp only[dY,cL]at h
  obtain⟨_,fs,f,hu,hf,ho,QV,hb⟩:=h
  have hg:cL P (.pair t' b) (.inr (fs,0,0)):=by
   simp only[cL]
   exact⟨f,hf,ho,QV,by simpa using hb⟩
  obtain⟨ps,vx,wo⟩:=cL.places _ fs 0 0 hg
  exact⟨fs,ps,hu,vx,λx m υ y o n9=>by simpa using wo x m υ y o n9⟩
 |arr n e=>exact absurd rfl (hn n e)
 |int _=>simp[Ty.isAgg]at ha
 |bool=>simp[Ty.isAgg]at ha
 |str=>simp[Ty.isAgg]at ha
 |slice _=>simp[Ty.isAgg]at ha
theorem lG{ρ:Operand→Value}{t:TypeId}{ps:Array (Nat×Operand)}(ho:o.op= .build t ps){v:Value}(h:(Instr.build t (ps.map λ(i,x)=>(i,ρ x))).run P w= .ok v w):(execOp ρ o).run P w= .ok (.value v) w:=by
 simp[execOp,ho,h]
theorem pP{ρ:Operand→Value}{t:TypeId}{n:Nat}{ps:Array (Nat×Operand)}(ho:o.op= .buildSlice t n ps){v:Value}{w':World}(h:(Instr.buildSlice t n (ps.map λ(i,x)=>(i,ρ x))).run P w= .ok v w'):(execOp ρ o).run P w= .ok (.value v) w':=by
 simp[execOp,ho,h]
theorem VR.Bp{H:Nat→Option ar}{τ:Ty}(ha:τ.isAgg=true){cs:Array Value}{x:τ.den}(h:Rd w M τ cs.toList x):VR w M H ν (.val τ x) (.agg cs):=by
 simp only[VR,V];rw[af ha];exact⟨cs,rfl,h⟩
theorem xj(hE:EnvTy P E)(hc:Core c σ a.tmps w M ν){t:TypeId}{ps:Array (Nat×Operand)}(ho:o.op= .build t ps){K:cN α}{n:Nat}{e:Ty}(ht:E.ty t=some (.arr n e))
  (h:m0 e σ.H n (partsOf σ.ρ ps) (List.replicate n e.zero) [] [] (λl rd ups=>K (.val (.arr n e) l) rd ups)=some r) (hn:cr c σ a o w M ν K r next):o.wp P a w next Q:=by
 have hl:=hE.ty t _ ht
 obtain⟨e',hu,hle⟩:=hl.arr
 obtain⟨i,hi,hs,hz,_⟩:=hl.base
 obtain⟨ie,Ms,Mt,_⟩:=hle.base
 have DI:=Rd.arr.1 (Rd.zero w M (.arr n e))
 obtain⟨l',nK,dy,M',cs',hK,cI,Aj,vr,Nh,jV,hf⟩:=rE (partsOf σ.ρ ps) (ps.toList.map λ(p:Nat×Operand)=>(p.1,a.eval p.2)) σ.H M (List.replicate n e.zero) (Ty.aL (.arr n e)).toArray [] [] _ (.refl _) hc.mem (hc.pr ps.toList)
  (by rw[a8]) (by rw[dr];exact DI.2.1) DI.2.2 rfl h
 refine aq (lG ho (run_build w t _ cs' ?_)) (hn _ _ _ _ _ _ _ hK cI (VR.Bp rfl (Rd.arr.2 ⟨vr,by rw[az];exact Nh,jV⟩)))
 unfold Program.built
 rw[hi,hu]
 simp only[hz,Ms,Mt,iX]
 exact hf
theorem sy(hE:EnvTy P E)(hc:Core c σ a.tmps w M ν){t:TypeId}{ps:Array (Nat×Operand)}(ho:o.op= .build t ps){K:cN α}{τ:Ty}(ht:E.ty t=some τ)(Hd: ∀n e,τ≠ .arr n e)
  (h:cond τ.isAgg (eN τ σ.H (partsOf σ.ρ ps) τ.zero [] [] (λl rd ups=>K (G0 E (partsOf σ.ρ ps) τ l) rd ups)) none=some r) (hn:cr c σ a o w M ν K r next):o.wp P a w next Q:=by
 obtain⟨tI,h⟩:=aG h
 have hl:=hE.ty t _ ht
 obtain⟨fs,pl,hu,vx,GC⟩:=hl.places tI Hd
 obtain⟨i,hi,hs,hz,_⟩:=hl.base
 obtain⟨l',nK,dy,M',cs',hK,cI,Aj,jV,hf,Ee⟩:=xi (place:=(pl.toArray[·]?)) (λx n υ y o hf=>by simpa using GC x n υ y o hf) (partsOf σ.ρ ps) (ps.toList.map λ(p:Nat×Operand)=>(p.1,a.eval p.2)) σ.H M τ.zero τ.aL.toArray [] [] _ (.refl _) hc.mem (hc.pr ps.toList)
  (Rd.zero w M τ) rfl h
 have G8:VR w M' (aN σ.H dy) ν (G0 E (partsOf σ.ρ ps) τ l') (.agg cs'):=by
  unfold G0
  split
  ·rename_i n e iU
   cases fB:(partsOf σ.ρ ps).all λp=> !(Nat.beq p.1 n)
   ·exact VR.Bp tI jV
   ·have hq:=xd iU
    show VR w M' (aN σ.H dy) ν (.w4 τ l' n) (.agg cs')
    have hv:=VR.Bp (H:=aN σ.H dy) (ν:=ν) tI jV
    simp only[VR]at hv ⊢
    refine⟨hv,cs',none,rfl,?_⟩
    have Cr:n4 τ n=some (.slice e):=by
     unfold cj at hq
     split at hq
     ·rename_i a ha
      rw[ha]
      have:=bs hq
      rw[this]
     ·cases hq
    have h2:=Ee n _ Cr fB
    have h3:=qJ hq
    simp only[aO,eR]at h3
    have h4:=iO (λl=>l[0]?) h2
    simp only[ff,fg,eR]at h4
    rw[af (show 0<(Ty.slice e).size from Nat.one_pos),af (show 0<(Ty.slice e).size from Nat.one_pos)]at h4
    rw[h4];exact h3
  ·exact VR.Bp tI jV
 refine aq (lG ho (run_build w t _ cs' ?_)) (hn _ _ _ _ _ _ _ hK cI G8)
 unfold Program.built
 rw[hi,hu]
 have Mu:(aC τ τ.aL).cells=τ.aL.toArray:=by apply dt;rw[ct]
 simp only[hz,vx,iX,Mu]
 exact hf
theorem AB{ps:List (Nat×ax)}{τ:Ty}{n k:Nat}(h:w5 E ps τ=some (n,k)):(∃e,cj [.dw n] τ (.slice e)=true)∧(∀p∈ps,p.1=n→p.2= .ref k)∧ ∃p∈ps,p.1=n:=by
 unfold w5 at h
 split at h
 ·rename_i m e Cn iU
  split at h
  ·rename_i i j hf
   cases h
   refine⟨⟨e,xd iU⟩,λp hp ya=> ?_,?_⟩
   ·have:p∈ps.filter λp=>Nat.beq p.1 n:=mS.2 ⟨hp,by rw[ya];exact gC n⟩
    rw[hf,eC]at this
    rw[this]
   ·have:(i,ax.ref k)∈ps.filter λp=>Nat.beq p.1 n:=by rw[hf];simp
    obtain⟨h1,h2⟩:=mS.1 this
    exact⟨_,h1,bY h2⟩
  ·cases h
 ·cases h
theorem vI{τ:Ty}{H:Nat→Option ar}{place:Nat→Option (Nat×Nat)}(GC: ∀(x:τ.den) n υ y o,rq τ x n υ y o→place n=some (o,υ.size)){n k:Nat}{e:Ty}(hq:n4 τ n=some (.slice e))(qH:(ν k).cells= #[ν k]):
  ∀(ps:List (Nat×ax)) (qs:List (Nat×Value)) (H1:Nat→Option ar) (M:Nat→Prop) (x:τ.den) (cs real:Array Value) (u:Value) (rd:List Nat) (ups:dh) (K:τ.den→List Nat→dh→Option α),
  Fz H H1→Mem c H1 w M ν→PR w M H1 ν ps qs→(∀p∈ps,p.1=n→p.2= .ref k)→Rd w M τ cs.toList x→real.toList=bG cs.toList (cH τ n) [u]→H1=aN H ups→eN τ H (m8 n ps) x rd ups K=some r→
  ∃x' nK dy M' u',∃(cs' pQ:Array Value),K x' nK dy=some r∧Tr c H1 w M ν (aN H dy) w M' ν∧Fz H (aN H dy)∧Rd w M' τ cs'.toList x'∧Instr.fill place real qs=some pQ∧pQ.toList=bG cs'.toList (cH τ n) [u']∧
   (u'=ν k∨(u'=u∧ ∀p∈ps,p.1≠n)):=by
 intro ps
 induction ps with
 |nil=>
  intro qs H1 M x cs real u rd ups K hz hm hp fB hr hu hH h
  cases qs with
  |cons _ _=>exact hp.elim
  |nil=>exact⟨x,rd,ups,M,u,cs,real,h,hH▸Tr.refl hm,hH▸hz,hr,rfl,hu,.inr ⟨rfl,λ_ h=>by simp at h⟩⟩
 |cons p ps ih=>
  intro qs H1 M x cs real u rd ups K hz hm hp fB hr hu hH h
  cases qs with
  |nil=>exact hp.elim
  |cons q qs=>
   obtain⟨h1,h2,h3⟩:=hp
   have IQ: ∀p∈ps,p.1=n→p.2= .ref k:=λp hp=>fB p (a7 _ hp)
   obtain⟨yn,on,Ni⟩:=ef hq x
   have Mv:=Ni.bound
   have PW:=Ni.eq.2
   subst PW
   rw[show(Ty.slice e).size=1 from rfl]at Mv
   have tP:=hr.length
   rw[az]at tP
   have Nj:real.size=cs.size:=by
    have h0:cH τ n+[u].length≤cs.toList.length:=by rw[az];exact cX Mv (Nat.le_of_eq tP.symm)
    rw[←az,hu,bD h0,az]
   by_cases ya:p.1=n
   ·
    have QW:=fB p ba ya
    have hb:Nat.beq p.1 n=true:=by rw[ya];exact gC n
    have h:eN τ H ((p.1,ax.emp)::m8 n ps) x rd ups K=some r:=by
     have e1:m8 n (p::ps)=(p.1,ax.emp)::m8 n ps:=by simp[m8,hb]
     rw[e1]at h;exact h
    unfold eN at h
    obtain⟨υ,y0,of,hf,h⟩:=gG h
    have U5:VR w M H1 ν .emp (.slice none 0 0):=by simp only[VR];exact⟨none,rfl⟩
    obtain⟨y,Ed,qN,M1,h,cI,hV,DH,_⟩:=eh hz hm U5 h
    obtain⟨υ',y',o',k',n9,dz,kH⟩:=ei h
    obtain⟨rfl,rfl⟩:=n9.eq
    obtain⟨rfl,rfl⟩:=hf.eq
    obtain⟨e1,pO⟩:=aw dz
    obtain⟨x',jJ,_,eJ⟩:=kH _ _ pO
    have ir:(jr τ p.1).size=1:=by
     have h5:=Ni.eq.1
     rw[ya,←h5];rfl
    rw[QW]at h2
    simp only[VR]at h2
    have J7:=eJ w M1 _ _ (hr.aK cI.aK) hV.cells
    have U6:(Value.slice none 0 0).cells.toList=[.slice none 0 0]:=rfl
    rw[U6]at J7
    obtain⟨x2,nK,dy,M',u',cs',pQ,hK,AA,Aj,jV,wo,sQ,J8⟩:=ih qs (aN H1 qN) M1 x' (bG cs.toList (cH τ p.1) [.slice none 0 0]).toArray (bG real.toList (cH τ n) [ν k]).toArray (ν k) (Ed++rd) (ups++qN) K DH cI.mem (h3.aK cI.aK cI.goes) IQ
     J7 (by
      show bG real.toList (cH τ n) [ν k]=bG (bG cs.toList (cH τ p.1) [.slice none 0 0]) (cH τ n) [ν k]
      rw[hu,ya,kG (by rw[az];omega),kG (by rw[az];omega)]) (by rw[bT,hH]) jJ
    refine⟨x2,nK,dy,M',u',cs',pQ,hK,cI.trans AA,Aj,jV,?_,sQ,.inl (J8.elim id λh=>h.1)⟩
    have G2:place q.1=some (cH τ n,1):=by rw[←h1,ya];exact GC _ _ _ _ _ Ni
    rw[nP (off:=cH τ n) (s:=1) G2 (by rw[h2.2,qH];rfl) ω,h2.2,qH]
    exact wo
   ·have hb:Nat.beq p.1 n=false:=by
     cases hb:Nat.beq p.1 n
     ·rfl
     ·exact absurd (bY hb) ya
    have h:eN τ H (p::m8 n ps) x rd ups K=some r:=by
     have e1:m8 n (p::ps)=p::m8 n ps:=by simp[m8,hb]
     rw[e1]at h;exact h
    unfold eN at h
    obtain⟨υ,y0,of,hf,h⟩:=gG h
    obtain⟨y,Ed,qN,M1,h,cI,hV,DH,_⟩:=eh hz hm h2 h
    obtain⟨υ',y',o',k',n9,dz,kH⟩:=ei h
    obtain⟨rfl,rfl⟩:=n9.eq
    obtain⟨rfl,rfl⟩:=hf.eq
    obtain⟨e1,pO⟩:=aw dz
    obtain⟨x',jJ,_,eJ⟩:=kH _ _ pO
    have hlen:(q.2.cells).size=(jr τ p.1).size:=by rw[←az];exact hV.cells.length
    have YI:=hf.bound
    have IJ:=hf.apart Ni ya
    rw[show(Ty.slice e).size=1 from rfl]at IJ
    obtain⟨x2,nK,dy,M',u',cs',pQ,hK,AA,Aj,jV,wo,sQ,J8⟩:=ih qs (aN H1 qN) M1 x' (bG cs.toList (cH τ p.1) q.2.cells.toList).toArray (bG real.toList (cH τ p.1) q.2.cells.toList).toArray u (Ed++rd) (ups++qN) K DH cI.mem (h3.aK cI.aK cI.goes) IQ
     (eJ w M1 _ _ (hr.aK cI.aK) hV.cells) (by
      show bG real.toList (cH τ p.1) q.2.cells.toList=bG (bG cs.toList (cH τ p.1) q.2.cells.toList) (cH τ n) [u]
      rw[hu]
      have S2:[u].length=1:=rfl
      have S3:q.2.cells.toList.length=(jr τ p.1).size:=by rw[az];exact hlen
      exact yO (a:=[u]) (b:=q.2.cells.toList) (by rw[S2,S3];omega) (by rw[S2,az];omega) (by rw[S3,az];omega)) (by rw[bT,hH]) jJ
    refine⟨x2,nK,dy,M',u',cs',pQ,hK,cI.trans AA,Aj,jV,?_,sQ,J8.imp id λh=>⟨h.1,λp' xY=>(bc.1 xY).elim (λe=>e▸ya) (h.2 p')⟩⟩
    rw[nP (off:=cH τ p.1) (s:=(jr τ p.1).size) (by rw[←h1];exact GC _ _ _ _ _ hf) hlen ω]
    exact wo
theorem yW(hE:EnvTy P E)(hc:Core c σ a.tmps w M ν){t:TypeId}{ps:Array (Nat×Operand)}(ho:o.op= .build t ps){K:cN α}{τ:Ty}(ht:E.ty t=some τ)(Hd: ∀n e,τ≠ .arr n e){n k:Nat}(hs:w5 E (partsOf σ.ρ ps) τ=some (n,k))
  (h:(match σ.H k with
   |some (.own _ _)=>cond τ.isAgg (eN τ σ.H (m8 n (partsOf σ.ρ ps)) τ.zero [] [] λx rd ups=>K (.vB τ x n k) (k::rd) ups) none
   |_=>none)=some r) (hn:cr c σ a o w M ν K r next):o.wp P a w next Q:=by
 obtain⟨⟨e,hq⟩,fB,p0,vJ,QX⟩:=AB hs
 split at h
 ·rename_i e' l hk
  obtain⟨tI,h⟩:=aG h
  have Cr:n4 τ n=some (.slice e):=by
   unfold cj at hq
   split at hq
   ·rename_i a ha
    rw[ha]
    rw[show a= .slice e from bs hq]
   ·cases hq
  have qH:(ν k).cells= #[ν k]:=by
   have:=hc.mem.dd k _ hk
   simp only[ER]at this
   rcases this with⟨_,ad,hv⟩|⟨b,cs,t,cap,hv,_⟩<;>rw[hv]<;>rfl
  have hl:=hE.ty t _ ht
  obtain⟨fs,pl,hu,vx,GC⟩:=hl.places tI Hd
  obtain⟨i,hi,ir,hz,_⟩:=hl.base
  have Al:τ.aL[cH τ n]? =some (.slice none 0 0):=by simpa [aO]using qJ hq
  obtain⟨x',nK,dy,M',u',cs',pQ,hK,cI,Aj,jV,hf,sQ,J8⟩:=vI (place:=(pl.toArray[·]?)) (λx n υ y o hf=>by simpa using GC x n υ y o hf) Cr qH (partsOf σ.ρ ps) (ps.toList.map λ(p:Nat×Operand)=>(p.1,a.eval p.2)) σ.H M τ.zero τ.aL.toArray τ.aL.toArray (.slice none 0 0) [] [] _ (.refl _) hc.mem (hc.pr ps.toList) fB
   (Rd.zero w M τ) (nc Al).symm rfl h
  have He:u'=ν k:=J8.elim id λh=>absurd QX (h.2 p0 vJ)
  subst He
  refine aq (lG ho (run_build w t _ pQ ?_)) (hn _ _ _ _ _ _ _ hK cI ?_)
  ·unfold Program.built
   rw[hi,hu]
   have Mu:(aC τ τ.aL).cells=τ.aL.toArray:=by apply dt;rw[ct]
   simp only[hz,vx,iX,Mu]
   exact hf
  ·simp only[VR]
   refine⟨pQ,cs'.toList,rfl,jV,sQ,?_,iE hq⟩
   obtain⟨e1,pK,_⟩:=cI.goes.dd k _ hk
   rw[pK];simp
 ·cases h
theorem vK(hE:EnvTy P E)(hc:Core c σ a.tmps w M ν){t:TypeId}{n:Nat}{ps:Array (Nat×Operand)}(ho:o.op= .buildSlice t n ps){K:cN α}{e:Ty}(ht:E.ty t=some (.slice e)){id:Nat}
  (h:cond (Nat.ble (n*(e.size+1)) 16777216) (il σ.H id (.own e []) (m0 e σ.H n (partsOf σ.ρ ps) (List.replicate n e.zero) [] [] λl rd ups=>K (.ref id) (id::rd) (ups++[(id,some (.own e l))]))) none=some r)
  (hn:cr c σ a o w M ν K r next):o.wp P a w next Q:=by
 obtain⟨hb,h⟩:=aG h
 obtain⟨hid,h⟩:=ej h
 have hb:=o5 hb
 rw[Nat.mul_add,mV]at hb
 obtain⟨e',hu,hle⟩:=(hE.ty t _ ht).slice
 obtain⟨ie,Ms,Mt,hz,_⟩:=hle.base
 obtain⟨l',nK,dy,M',cs',hK,cI,Aj,vr,Nh,jV,hf⟩:=rE (partsOf σ.ρ ps) (ps.toList.map λ(p:Nat×Operand)=>(p.1,a.eval p.2)) σ.H M (List.replicate n e.zero) (madeCells (aC e e.aL).cells (n*e.size)) [] [] _ (.refl _) hc.mem (hc.pr ps.toList)
  (by rw[a8]) (size_madeCells _ _) (gT.made w M e (aB _)) rfl h
 have JV:aN σ.H dy id=none:=Aj.none hid
 have nh:=cI.trans (Tr.row cI.mem JV e' (e:=e) (cs:=cs') (l:=l') (cap:=n) ω (by simp[maxLen];omega) Nh jV)
 have bk:(Instr.buildSlice t n (ps.map λ(i,x)=>(i,a.eval x))).run P w= .ok (.slice (some ⟨w.heap.size,0,none⟩) n n) (w.alloc (.cells cs' e')):=by
  by_cases h0:n*e.size=0
  ·rw[h0]at hf
   have Am:madeCells (aC e e.aL).cells 0=(Array.range 0).map λi:Nat=>(#[]:Array Value)[i%0]! :=by simp[madeCells]
   rw[Am]at hf
   rw[←iX]at hf
   simp[Instr.buildSlice,run_underlying hu,Go.sizeOf,typeInfo,Ms,Mt,h0,newRow]at hf ⊢
   simp[hf]
  ·refine run_buildSlice w t e' n _ cs' ie _ hu Ms hz (by rw[Mt];omega) (by rw[Mt];exact h0) ?_
   rw[Mt,iX]
   exact hf
 refine aq (pP ho bk) (hn _ _ _ _ _ (λb=>M' b∨b=w.heap.size) (updν ν id (.slice (some ⟨w.heap.size,0,none⟩) l'.length n)) hK ?_ ?_)
 ·rw[bT];exact nh
 ·simp only[VR]
  exact⟨by rw[bT];show au _ id _ id≠none;rw[aa];simp,by simp[updν,vr]⟩
def GD(o:Option Value)(d l:Int):Prop:=(o=none∧l=d)∨ ∃k,o=some (.int k l)
theorem gJ(hc:Core c σ a.tmps w M ν){x:Option Operand}{d:Int}{k:Int→Option α}(h:n6 (x.map σ.ρ) d k=some r): ∃l,k l=some r∧GD (x.map a.eval) d l:=by
 cases x with
 |none=>exact⟨d,h,.inl ⟨rfl,rfl⟩⟩
 |some x=>
  obtain⟨i,n,hx,h⟩:=fO (h:mE (σ.ρ x) (λ_ x=>k x)=some r)
  have hv:=hc.ev x
  rw[hx]at hv
  exact⟨n,h,.inr ⟨i,by rw[←hv.int];rfl⟩⟩
theorem mj{s:Bool}{len cap:Nat}{lo hi mx:Option Value}{l h m:Int}(mG:GD lo 0 l)(An:GD hi len h)(Cv:GD mx cap m)(hm:mx.isNone=true∨hi.isSome=true)
  (h0:0≤l) (h1:l≤h) (h2:h≤m) (h3:m≤cap):(Instr.sliceBounds s len cap lo hi mx).run P w= .ok (l.toNat,h.toNat,m.toNat) w:=by
 have hb: ∀(k:IntKind) (i:Int) (y:Nat) cd,0≤i→i≤y→(Instr.sliceBound (.int k i) y cd).run P w= .ok i.toNat w:=by
  intro k i y cd h1 h2
  simp[Instr.sliceBound,asIntOf,h1,h2]
 have dz:((m.toNat:Nat):Int)=m:=ω
 have YJ:((h.toNat:Nat):Int)=h:=ω
 rcases Cv with⟨rfl,rfl⟩|⟨km,rfl⟩
 ·rcases An with⟨rfl,rfl⟩|⟨kh,rfl⟩
  ·rcases mG with⟨rfl,rfl⟩|⟨kl,rfl⟩
   ·simp[Instr.sliceBounds]
   ·simp[Instr.sliceBounds,hb kl l len _ h0 h1]
  ·rcases mG with⟨rfl,rfl⟩|⟨kl,rfl⟩
   ·simp[Instr.sliceBounds,hb kh h cap _ ω h2]
   ·simp[Instr.sliceBounds,hb kh h cap _ ω h2,hb kl l h.toNat _ h0 ω]
 ·rcases An with⟨rfl,rfl⟩|⟨kh,rfl⟩
  ·simp at hm
  ·rcases mG with⟨rfl,rfl⟩|⟨kl,rfl⟩
   ·simp[Instr.sliceBounds,hb km m cap _ ω h3,hb kh h m.toNat _ ω ω]
   ·simp[Instr.sliceBounds,hb km m cap _ ω h3,hb kh h m.toNat _ ω ω,hb kl l h.toNat _ h0 ω]
theorem vL{ρ:Operand→Value}{t:TypeId}{x:Operand}{lo hi mx:Option Operand}(ho:o.op= .slice t x lo hi mx){s:ByteArray}{l h:Int}(hu:P.underlying t=some .string)(hx:ρ x= .string s)
  (mG:GD (lo.map ρ) 0 l) (An:GD (hi.map ρ) s.size h) (Cv:mx.isNone=true) (h0:0≤l) (h1:l≤h) (h2:h≤s.size):(execOp ρ o).run P w= .ok (.value (.string (s.extract l.toNat h.toNat))) w:=by
 have hm:mx=none:=by simpa using Cv
 subst hm
 have hb:=mj (P:=P) (w:=w) (s:=false) mG An (.inl ⟨rfl,rfl⟩) (.inl rfl) h0 h1 h2 (gD _)
 simp[execOp,ho,hx,Instr.sliceAt,Instr.slice,run_underlying hu,hb]
theorem iv{ρ:Operand→Value}{t e:TypeId}{x:Operand}{lo hi mx:Option Operand}(ho:o.op= .slice t x lo hi mx){τ:Ty}{ad:Option Addr}{len cap:Nat}{l h m:Int}(hu:P.underlying t=some (.slice e))(hle:dY P τ e)(hx:ρ x= .slice ad len cap)
  (mG:GD (lo.map ρ) 0 l) (An:GD (hi.map ρ) len h) (Cv:GD (mx.map ρ) cap m) (hm:(mx.map ρ).isNone=true∨(hi.map ρ).isSome=true) (h0:0≤l) (h1:l≤h) (h2:h≤m) (h3:m≤cap):
  (execOp ρ o).run P w= .ok (.value (.slice (if m.toNat=l.toNat then ad else ad.map (·.add (l.toNat*τ.size))) (h.toNat-l.toNat) (m.toNat-l.toNat))) w:=by
 have hb:=mj (P:=P) (w:=w) (s:=true) mG An Cv hm h0 h1 h2 h3
 simp[execOp,ho,hx,Instr.sliceAt,Instr.slice,run_underlying hu,hb,bp hle]
theorem rF{x:Option Operand}(h:dS x=true)(a:Act): ∃k,x.map a.eval=some (.int k 0):=by
 unfold dS at h
 split at h
 ·rename_i k n
  have:n=0:=by simpa using h
  subst this
  exact⟨k,rfl⟩
 ·cases h
theorem Rd.cut{e:Ty}{ad:Option Addr}{len cap:Nat}{x:List e.den}(h:Rd w M (.slice e) [.slice ad len cap] x){l hh m:Int}(h0:0≤l)(h1:l≤hh)(h2:hh≤m)(hl:hh≤x.length):
  Rd w M (.slice e) [.slice (if m.toNat=l.toNat then ad else ad.map (·.add (l.toNat*e.size))) (hh.toNat-l.toNat) (m.toNat-l.toNat)] (List.drop l.toNat (List.take hh.toNat x)):=by
 simp only[Rd,cc,cn]at h ⊢
 obtain⟨a',fP,hv,hc,hr⟩:=h
 cases hv
 have hlen:ℓ (List.drop l.toNat (List.take hh.toNat x))=hh.toNat-l.toNat:=by rw[cT,aT];omega
 refine⟨_,_,by rw[hlen],by rw[hlen];omega,λi hi=> ?_⟩
 rw[hlen]at hi
 obtain⟨b,off,ha,hb,hm,cs,jo,eJ⟩:=hr (l.toNat+i) ω
 rw[ag ω]
 refine⟨b,off+l.toNat*e.size,by rw[ha];simp[Addr.add_lit],hb,hm,cs,?_,?_⟩
 ·rw[show off+l.toNat*e.size+i*e.size=off+(l.toNat+i)*e.size from by rw[bO];omega];exact jo
 ·simp only[td,List.getElem_drop,tg]at eJ ⊢
  exact eJ
theorem VR.emp{H:Nat→Option ar}{v:Value}:VR w M H ν .emp v↔ ∃ad,v= .slice ad 0 0:=by simp[VR]
theorem Ef(hE:EnvTy P E)(hc:Core c σ a.tmps w M ν){t:TypeId}{x:Operand}{lo hi mx:Option Operand}(ho:o.op= .slice t x lo hi mx){K:cN α}{τ:Ty}(ht:E.ty t=some τ)
  (h:iS τ (lo.isNone&&dS hi&&dS mx) (σ.ρ x) (lo.map σ.ρ) (hi.map σ.ρ) (mx.map σ.ρ) σ.H K=some r) (hn:cr c σ a o w M ν K r next):o.wp P a w next Q:=by
 have lE:=hE.ty t τ ht
 have hv:=hc.ev x
 have Al: ∀(e:Ty) (e':TypeId) (ad:Option Addr) (len cap:Nat),P.underlying t=some (.slice e')→dY P e e'→a.eval x= .slice ad len cap→(lo.isNone&&dS hi&&dS mx)=true→
   ∃PX,(execOp a.eval o).run P w= .ok (.value (.slice PX 0 0)) w:=by
  intro e e' ad len cap hu hle hx hz
  simp only[aV]at hz
  obtain⟨⟨h1,h2⟩,h3⟩:=hz
  have h1:lo=none:=by simpa using h1
  subst h1
  obtain⟨k2,h2⟩:=rF h2 a
  obtain⟨k3,h3⟩:=rF h3 a
  have:=iv (P:=P) (w:=w) ho hu hle hx (l:=0) (h:=0) (m:=0) (.inl ⟨rfl,rfl⟩) (.inr ⟨k2,h2⟩) (.inr ⟨k3,h3⟩) (.inr (by rw[h2];rfl)) ω ω ω ω
  exact⟨_,this⟩
 unfold iS at h
 split at h
 ·rename_i s hx
  obtain⟨hm,h⟩:=aG h
  obtain⟨l,h,mG⟩:=gJ hc h
  obtain⟨hh,h,An⟩:=gJ hc h
  obtain⟨hk,h⟩:=aG h
  rw[mX]at hk
  obtain⟨h0,h1,h2,h3⟩:=bs hk
  rw[hx]at hv
  exact aq (vL ho lE.str hv.str mG An (by simpa using hm) h0 h1 h2) (hn _ [] [] _ _ _ _ h (.refl hc.mem) (.mkStr _))
 ·rename_i e hx
  obtain⟨e',hu,hle⟩:=lE.slice
  rw[hx]at hv
  obtain⟨ad,hv⟩:=VR.emp.1 hv
  cases hz:(lo.isNone&&dS hi&&dS mx)
  ·rw[hz]at h
   replace h:cond (mx.map σ.ρ).isNone (n6 (lo.map σ.ρ) 0 λl=>n6 (hi.map σ.ρ) 0 λh=>cond (jD l h 0 0) (K .emp [] []) none) none=some r:=h
   obtain⟨hm,h⟩:=aG h
   obtain⟨l,h,mG⟩:=gJ hc h
   obtain⟨hh,h,An⟩:=gJ hc h
   obtain⟨hk,hK⟩:=aG h
   rw[mX]at hk
   obtain⟨h0,h1,h2,h3⟩:=bs hk
   have dz:mx=none:=by simpa using hm
   subst dz
   have:=iv (P:=P) (w:=w) ho hu hle hv mG An (.inl ⟨rfl,rfl⟩) (.inl rfl) h0 h1 (m:=0) ω ω
   refine aq this (hn _ [] [] _ _ _ _ hK (.refl hc.mem) (VR.emp.2 ?_))
   rw[show hh.toNat-l.toNat=0 from by omega,show(0:Int).toNat-l.toNat=0 from by omega]
   exact⟨_,rfl⟩
  ·rw[hz]at h
   obtain⟨PX,bk⟩:=Al e e' ad 0 0 hu hle hv hz
   exact aq bk (hn _ [] [] _ _ _ _ h (.refl hc.mem) (VR.emp.2 ⟨_,rfl⟩))
 ·rename_i e dT
  obtain⟨e',hu,hle⟩:=lE.slice
  cases hz:(lo.isNone&&dS hi&&dS mx)
  ·rw[hz]at h
   obtain⟨y,rd,ups,M',h,cI,hV,_⟩:=eh (.refl _) hc.mem hv h
   replace h:cond ((mx.map σ.ρ).isNone||(hi.map σ.ρ).isSome) (n6 (lo.map σ.ρ) 0 λl=>n6 (hi.map σ.ρ) (ℓ y:Int) λh=>n6 (mx.map σ.ρ) (ℓ y:Int) λm=>
    cond (jD l h m (ℓ y:Int)) (K (.val (.slice e) (List.drop l.toNat (List.take h.toNat y))) rd ups) none) none=some r:=h
   obtain⟨hm,h⟩:=aG h
   obtain⟨l,h,mG⟩:=gJ hc h
   obtain⟨hh,h,An⟩:=gJ hc h
   obtain⟨m,h,Cv⟩:=gJ hc h
   obtain⟨hk,h⟩:=aG h
   rw[mX]at hk
   obtain⟨h0,h1,h2,h3⟩:=bs hk
   have hr:=V.slice.1 hV
   have jV:=hr
   simp only[Rd,cc,cn]at jV
   obtain⟨ad,cap,hx,J3,_⟩:=jV
   rw[hx]at hr
   have dz:(mx.map a.eval).isNone=true∨(hi.map a.eval).isSome=true:=by
    simp only[mT,Option.isNone_map,Option.isSome_map]at hm ⊢;exact hm
   have Eg: ∃m',GD (mx.map a.eval) cap m'∧hh≤m'∧m'≤cap:=by
    rcases Cv with⟨h9,_⟩|⟨k,h9⟩
    ·exact⟨cap,.inl ⟨h9,rfl⟩,ω,gD _⟩
    ·exact⟨m,.inr ⟨k,h9⟩,h2,ω⟩
   obtain⟨m',Eg,h4,h5⟩:=Eg
   have bk:=iv (P:=P) (w:=w) ho hu hle hx mG An Eg dz h0 h1 h4 h5
   refine aq bk (hn _ _ _ _ _ M' _ h cI ?_)
   simp only[VR]
   exact V.slice.2 (hr.cut h0 h1 h4 ω)
  ·rw[hz]at h
   obtain⟨y,rd,h,hS⟩:=ry hc.mem hv h
   obtain⟨ad,cap,hx,_⟩:=hS
   obtain⟨PX,bk⟩:=Al e e' ad _ cap hu hle hx hz
   exact aq bk (hn _ _ [] _ _ _ _ h (.refl hc.mem) (VR.emp.2 ⟨_,rfl⟩))
 ·cases h
theorem Cw(hE:EnvTy P E)(hc:Core c σ a.tmps w M ν){t:TypeId}{x:Operand}{lo hi mx:Option Operand}(ho:o.op= .slice t x lo hi mx){K:cN α}{τ:Ty}(ht:E.ty t=some τ)
  (h:m6 E τ (lo.isNone&&dS hi&&dS mx) (σ.ρ x) (lo.map σ.ρ) (hi.map σ.ρ) (mx.map σ.ρ) σ.H K=some r) (hn:cr c σ a o w M ν K r next):o.wp P a w next Q:=by
 unfold m6 at h
 split at h
 ·rename_i e id U7 PY hx mG An Cv
  have lE:=hE.ty t _ ht
  obtain⟨e',hu,hle⟩:=lE.slice
  have hv:=hc.ev x
  rw[hx]at hv
  simp only[VR]at hv
  obtain⟨h0,hv⟩:=hv
  have h:n6 (lo.map σ.ρ) 0 (λi=>match σ.H id with
   |some (.own e' l)=>dx e' e (cond (jD i (ℓ l:Int) (ℓ l:Int) (ℓ l:Int)) (K (.sub id e i.toNat) [id] []) none)
   |_=>none)=some r:=by rw[mG];exact h
  obtain⟨i,h,hb⟩:=gJ hc h
  split at h
  ·rename_i e2 l hid
   obtain⟨e1,h⟩:=bB h
   subst e1
   obtain⟨hk,h⟩:=aG h
   rw[mX]at hk
   obtain⟨h1,h2,_,_⟩:=bs hk
   obtain⟨ad,cap,GF⟩:=ER.tU (hc.mem.dd id _ hid)
   have J3:l.length≤cap:=by
    have:=hc.mem.dd id _ hid
    simp only[ER]at this
    rcases this with⟨rfl,a,GB⟩|⟨b,cs,t,cp,GB,_,_,_,hl,_⟩
    ·simp
    ·rw[GF]at GB;simp only[Value.slice.injEq]at GB;obtain⟨_,_,rfl⟩:=GB;exact hl
   have QY:hi=none:=by simpa using An
   have Eg:mx=none:=by simpa using Cv
   subst QY Eg
   have bk:=iv (P:=P) (w:=w) ho hu hle (hv.trans GF) (l:=i) (h:=(l.length:Int)) (m:=(cap:Int)) hb (.inl ⟨rfl,rfl⟩) (.inl ⟨rfl,rfl⟩) (.inl rfl) h1 h2 ω (gD _)
   refine aq bk (hn _ _ [] _ _ _ _ h (.refl hc.mem) ?_)
   simp only[VR]
   exact⟨h0,ad,_,cap,GF,by simp⟩
  ·cases h
 ·exact Ef hE hc ho ht h hn
theorem nn{t ty e:TypeId}{i:TypeInfo}(ht:P.underlying t=some (.slice e))(hi:P.info? e=some i)(base:Option Addr)(n cap:Nat)(h:n≤cap)(a':Option Addr)(cp:Nat):
  (Builtin.append_ #[t,t] ty #[.slice base n cap,.slice a' 0 cp]).run P w= .ok (.slice base n cap) w:=by
 cases a'<;>cases base<;>simp[Builtin.append_,run_underlying ht,Go.sizeOf,typeInfo,hi,Builtin.lenOf,h,Builtin.firstCells,loadCells,loadCellsFrom,storeCells]
theorem yX{t ty e te:TypeId}{i:TypeInfo}(ht:P.underlying t=some (.slice e))(hi:P.info? e=some i){b n cap m cp:Nat}{a':Addr}{news:List Value}{cs:Array Value}
  (hg:w.heap[b]? =some (.cells cs te (0,0))) (hs:cs.size=cap*i.size) (hl:news.length=m*i.size) (hn: ∀j u,news[j]? =some u→w.cell? (a'.add j)=some u) (h1: ∀u∈news,u.oneCell'=true) (hr:n+m≤cap):
  (Builtin.append_ #[t,t] ty #[.slice (some ⟨b,0,none⟩) n cap,.slice (some a') m cp]).run P w= .ok (.slice (some ⟨b,0,none⟩) (n+m) cap) (w.setRow b (bG cs.toList (n*i.size) news).toArray):=by
 have hf:=run_firstCells_some (P:=P) w i.size m a' m cp news hl hn
 have hm:(n+m)*i.size≤cap*i.size:=dD _ hr
 rw[bO]at hm
 have wj:=run_storeCells_at (P:=P) b (n*i.size) te news 0 cs w hg ω h1
 simp only[eR]at wj
 simp[Builtin.append_,run_underlying ht,Go.sizeOf,typeInfo,hi,Builtin.lenOf,hr,hf,Addr.add_lit,wj,bG]
theorem dj{args:Array Operand}{t:TypeId}{x y:Operand}{v:Value}{w':World}(ho:o.op= .call {callee:= .builtin .append,args,argTypes:= #[t,t]})(ha:args.toList=[x,y])
  (h:(Builtin.append_ #[t,t] o.type #[a.eval x,a.eval y]).run P w= .ok v w'):(execOp a.eval o).run P w= .ok (.value v) w':=by
 obtain⟨cs,hr⟩:=fN (P:=P) (ρ:=a.eval) ho (w:=w)
 rw[hr]
 have:args.map a.eval= #[a.eval x,a.eval y]:=by apply dt;simp[ha]
 rw[this]
 simp[builtin,h]
theorem tW{H:Nat→Option ar}(hm:Mem c H w M ν){id:Nat}(hid:H id=none){t ty:TypeId}{e':TypeId}{e:Ty}(hu:P.underlying t=some (.slice e'))(hle:dY P e e')
  {xs ys:List e.den} {olds news:List Value} {base:Option Addr} {cap cp:Nat} {a':Addr} (Eh:base=none→xs=[]∧cap=0)
  (mG:olds.length=xs.length*e.size) (U8:gT w M e olds xs) (ho: ∀b,base=some b→ ∀j u,olds[j]? =some u→w.cell? (b.add j)=some u)
  (GG:news.length=ys.length*e.size) (U9:gT w M e news ys) (hn: ∀j u,news[j]? =some u→w.cell? (a'.add j)=some u)
  (hg:cap<xs.length+ys.length) (hs:xs.length+ys.length<py):
  ∃v w' M' ν',(Builtin.append_ #[t,t] ty #[.slice base xs.length cap,.slice (some a') ys.length cp]).run P w= .ok v w'∧Tr c H w M ν (au H id (some (.own e (xs++ys)))) w' M' ν'∧ν' id=v:=by
 obtain⟨i,hi,ir,hz,Mw⟩:=hle.base
 have J9:(aC e e.aL).cells.size=e.size:=by rw[←az,ct,eU]
 have IS:xs.length+ys.length≤maxLen:=by simp only[py,maxLen]at hs ⊢;omega
 have tX:(xs.length+ys.length)*i.bytes≤140737488355328:=by
  have:(xs.length+ys.length)*i.bytes≤68719476736*2048:=pj (by simp only[py]at hs;omega) Mw
  omega
 have bk: ∃fP rest,(Builtin.append_ #[t,t] ty #[.slice base xs.length cap,.slice (some a') ys.length cp]).run P w= .ok (.slice (some ⟨w.heap.size,0,none⟩) (xs.length+ys.length) fP) (w.drew.alloc (.cells (olds++news++rest).toArray e'))∧
   xs.length+ys.length≤fP∧fP≤maxLen∧rest.length=(fP-(xs.length+ys.length))*e.size:=by
  refine⟨grownCap w (xs.length+ys.length) cap e',(Builtin.zeroCells (aC e e.aL).cells (grownCap w (xs.length+ys.length) cap e'-(xs.length+ys.length))).toList,?_,grownCap_ge _ _ _ _,grownCap_le_maxLen _ _ _ _ IS,?_⟩
  ·cases base with
   |none=>
    obtain⟨rfl,rfl⟩:=Eh rfl
    have QZ:olds=[]:=ia (by rw[mG];simp)
    subst QZ
    have:=run_append_nil (P:=P) w t ty e' i _ hu hi hz a' ys.length cp news (by rw[GG,ir]) hn (by simpa using hg) (by simp only[py]at hs;omega) (by simp at tX;omega)
    simp only[cA,cF,fF]
    rw[this]
    congr 2
    apply iO (λz=>Obj.cells z e' (0,0))
    apply dt;simp
   |some b=>
    have:=run_append_grow (P:=P) w t ty e' i _ hu hi hz b xs.length cap olds (by rw[mG,ir]) (ho b rfl) a' ys.length cp news (by rw[GG,ir]) hn hg (by simp only[py]at hs;omega) (growslice_fits hg tX)
    rw[this]
    congr 2
    apply iO (λz=>Obj.cells z e' (0,0))
    apply dt;simp
  ·rw[az,size_zeroCells,J9]
 obtain⟨fP,rest,bk,pO,Ka,Nk⟩:=bk
 have hlen:(xs++ys).length=xs.length+ys.length:=aQ
 have hd:=Tr.drew hm
 have PW:(olds++news).length=(xs++ys).length*e.size:=by rw[aQ,mG,GG,hlen,bO]
 have sA:=Tr.row hd.mem hid e' (e:=e) (cs:=(olds++news++rest).toArray) (l:=xs++ys) (cap:=fP) (by rw[hlen];exact pO) Ka
  (by rw[dr,aQ,PW,Nk,hlen,←bO];congr 1;omega)
  (gT.more ((U8.append mG U9).aK hd.aK) (by rw[PW];exact aB _))
 refine⟨_,_,_,_,bk,hd.trans sA,?_⟩
 rw[←hlen];simp[updν]
theorem Cx(hE:EnvTy P E)(hc:Core c σ a.tmps w M ν){args:Array Operand}{ts:Array TypeId}{t t':TypeId}{x y:Operand}(ho:o.op= .call {callee:= .builtin .append,args,argTypes:=ts})(ha:args.toList=[x,y])(Kb:ts.toList=[t,t']){K:cN α}{e:Ty}
  (ht:E.ty t=some (.slice e)) {id:Nat} (h:cond (Nat.beq t t') (il σ.H id (.own e []) (yG id e (σ.ρ x) (σ.ρ y) σ.H K)) none=some r) (hn:cr c σ a o w M ν K r next):o.wp P a w next Q:=by
 obtain⟨Q0,h1⟩:=aG h
 clear h
 have Q0:=bY Q0
 subst Q0
 obtain⟨hid,h⟩:=ej h1
 clear h1
 have Q1:ts= #[t,t]:=by apply dt;simpa using Kb
 subst Q1
 obtain⟨e',hu,hle⟩:=(hE.ty t _ ht).slice
 obtain⟨i,hi,ir,hz,Mw⟩:=hle.base
 have vv:=hc.ev x
 unfold yG at h
 obtain⟨ys,rd,h,hS⟩:=ry hc.mem (hc.ev y) h
 have Kc:(ys=[]∧ ∃a' cp,a.eval y= .slice a' 0 cp)∨(ys≠[]∧ ∃a' cp news,a.eval y= .slice (some a') ys.length cp∧news.length=ys.length*e.size∧(∀j u,news[j]? =some u→w.cell? (a'.add j)=some u)∧gT w M e news ys∧ ∀u∈news,u.oneCell'=true):=by
  by_cases hy:ys=[]
  ·left
   obtain⟨a',cp,hv,_⟩:=hS
   exact⟨hy,a',cp,by rw[hv,hy];rfl⟩
  ·right
   obtain⟨b,off,cp,news,hv,hl,jo,eJ,h1⟩:=hS.cells hy
   exact⟨hy,⟨b,off,none⟩,cp,news,hv,hl,λj u hj=>by rw[Addr.add_lit];exact jo j u hj,eJ,h1⟩
 split at h
 ·
  rename_i hx
  rw[hx]at vv
  obtain⟨ad,vv⟩:=VR.emp.1 vv
  obtain⟨GH,h⟩:=aG h
  rw[tC]at GH
  have GH:=bs GH
  rcases Kc with⟨rfl,a',cp,mh⟩|⟨hy,a',cp,news,mh,hl,jo,eJ,h1⟩
  ·refine aq (dj ho ha (by rw[vv,mh];exact nn hu hi ad 0 0 (aB _) a' cp)) (hn _ _ _ _ _ _ _ h (Tr.nothing hc.mem hid e ad) ?_)
   simp only[VR]
   exact⟨by show au _ id _ id≠none;rw[aa];simp,by simp[updν]⟩
  ·have Hf:0<ys.length:=mM.2 hy
   obtain⟨v,w',M',ν',bk,cI,hv⟩:=tW (P:=P) (ty:=o.type) hc.mem hid hu hle (xs:=[]) (ys:=ys) (olds:=[]) (news:=news) (base:=ad) (cap:=0) (cp:=cp) (a':=a') (λ_=>⟨rfl,rfl⟩) (by simp) (λi hi=>absurd hi (by simp)) (λ_ _ j u hj=>by simp at hj)
    hl eJ jo (by simpa using Hf) (by simpa using GH)
   refine aq (dj ho ha (by rw[vv,mh];exact bk)) (hn _ _ _ _ _ _ _ h cI ?_)
   simp only[VR]
   exact⟨by show au _ id _ id≠none;rw[aa];simp,hv.symm⟩
 ·
  rename_i j hx
  rw[hx]at vv
  simp only[VR]at vv
  obtain⟨_,vv⟩:=vv
  split at h
  ·rename_i e1 l hj
   obtain⟨e2,h⟩:=aw h
   cases e2
   obtain⟨GH,h⟩:=aG h
   rw[tC]at GH
   have GH:l.length+ys.length<py:=bs GH
   have dT:id≠j:=λe=>by rw[e,hj]at hid;cases hid
   have gW:au σ.H j (some .gone) id=none:=by rw[ae _ _ dT];exact hid
   have xk:=Tr.gone hc.mem j
   have dZ:=hc.mem.dd j _ hj
   simp only[ER]at dZ
   rcases dZ with⟨rfl,ad,Kd⟩|⟨b,cs,te,cap,Kd,hg,hM,Cm,hl,sO,hs,hr⟩
   ·rw[Kd]at vv
    rcases Kc with⟨rfl,a',cp,mh⟩|⟨hy,a',cp,news,mh,hl,jo,eJ,h1⟩
    ·refine aq (dj ho ha (by rw[vv,mh];exact nn hu hi ad 0 0 (aB _) a' cp)) (hn _ _ _ _ _ _ _ h (xk.trans (Tr.nothing xk.mem gW e ad)) ?_)
     simp only[VR]
     exact⟨by show au _ id _ id≠none;rw[aa];simp,by simp[updν]⟩
    ·have Hf:0<ys.length:=mM.2 hy
     obtain⟨v,w',M',ν',bk,cI,hv⟩:=tW (P:=P) (ty:=o.type) xk.mem gW hu hle (xs:=[]) (ys:=ys) (olds:=[]) (news:=news) (base:=ad) (cap:=0) (cp:=cp) (a':=a') (λ_=>⟨rfl,rfl⟩) (by simp) (λi hi=>absurd hi (by simp)) (λ_ _ j u hj=>by simp at hj)
      hl eJ jo (by simpa using Hf) (by simpa using GH)
     refine aq (dj ho ha (by rw[vv,mh];exact bk)) (hn _ _ _ _ _ _ _ h (xk.trans cI) ?_)
     simp only[VR]
     exact⟨by show au _ id _ id≠none;rw[aa];simp,hv.symm⟩
   ·rw[Kd]at vv
    have tP:cs.toList.length=cap*e.size:=by rw[az,hs]
    have Q2:l.length*e.size≤cap*e.size:=dD _ hl
    rcases Kc with⟨rfl,a',cp,mh⟩|⟨hy,a',cp,news,mh,GG,jo,eJ,h1⟩
    ·refine aq (dj ho ha (by rw[vv,mh];exact nn hu hi _ _ cap hl a' cp)) (hn _ _ _ _ _ M (updν ν id (ν j)) h ?_ ?_)
     ·refine Tr.rename hc.mem hj hid (.inr rfl) ?_
      rw[cV]
      exact hc.mem.dd j _ hj
     ·simp only[VR]
      exact⟨by show au _ id _ id≠none;rw[aa];simp,by simp[updν,Kd]⟩
    ·by_cases pR:l.length+ys.length≤cap
     ·have hmul:(l.length+ys.length)*e.size≤cap*e.size:=dD _ pR
      rw[bO]at hmul
      have bk:=yX (P:=P) (ty:=o.type) hu hi (w:=w) (b:=b) (n:=l.length) (cap:=cap) (m:=ys.length) (cp:=cp) (a':=a') (news:=news) (cs:=cs) hg (by rw[hs,ir]) (by rw[GG,ir]) jo h1 pR
      rw[ir]at bk
      have G3:bG cs.toList (l.length*e.size) news=(cs.toList.take (l.length*e.size)++news)++cs.toList.drop (l.length*e.size+news.length):=rfl
      have hold:gT w M e (cs.toList.take (l.length*e.size)) l:=gT.take hr (aB _)
      have S4:(cs.toList.take (l.length*e.size)).length=l.length*e.size:=by rw[aT];omega
      have IT:gT w M e (bG cs.toList (l.length*e.size) news) (l++ys):=by
       rw[G3]
       refine gT.more (hold.append S4 eJ) ?_
       rw[aQ,aQ,S4,GG,bO];exact aB _
      have S5:(bG cs.toList (l.length*e.size) news).length=cap*e.size:=by rw[bD ω];exact tP
      have Hg:Tr c σ.H w M ν (au σ.H j (some (.own e l))) (w.setRow b (bG cs.toList (l.length*e.size) news).toArray) M ν:=by
       refine Tr.write (e':= .own e l) hc.mem hj trivial trivial (.refl _) (by rw[Kd];simp[bK];omega) hg λwh hk ni=> ?_
       simp only[ER]
       refine .inr ⟨b,_,te,cap,Kd,setRow_heap w b cs _ te _ hg,ni,Cm,hl,sO,by rw[dr];exact S5,λk kH=> ?_⟩
       have:=(IT k (by rw[aQ];omega)).aK hk
       rw[oV kH]at this
       exact this
      rw[qG hj]at Hg
      have nh:Tr c σ.H (w.setRow b (bG cs.toList (l.length*e.size) news).toArray) M ν (au (au σ.H j (some .gone)) id (some (.own e (l++ys)))) (w.setRow b (bG cs.toList (l.length*e.size) news).toArray) M (updν ν id (.slice (some ⟨b,0,none⟩) (l++ys).length cap)):=by
       refine Tr.rename Hg.mem hj hid (.inr (by rw[Kd];simp[bK])) ?_
       simp only[ER]
       refine .inr ⟨b,_,te,cap,rfl,setRow_heap w b cs _ te _ hg,hM,Cm,by rw[aQ];exact pR,sO,by rw[dr];exact S5,(IT.aK Hg.aK)⟩
      refine aq (dj ho ha (by rw[vv,mh];exact bk)) (hn _ _ _ _ _ _ _ h (Hg.trans nh) ?_)
      simp only[VR]
      exact⟨by show au _ id _ id≠none;rw[aa];simp,by simp[updν]⟩
     ·obtain⟨v,w',M',ν',bk,cI,hv⟩:=tW (P:=P) (ty:=o.type) xk.mem gW hu hle (xs:=l) (ys:=ys) (olds:=cs.toList.take (l.length*e.size)) (news:=news) (base:=some ⟨b,0,none⟩) (cap:=cap) (cp:=cp) (a':=a') (λh=>by cases h)
       (by rw[aT];omega) (gT.take hr (aB _)) (λb' bA k u hk=>by
        cases bA
        rw[Addr.add_lit,cell_of hg]
        rw[ff]at hk
        split at hk
        ·rw[←cM];simpa using hk
        ·cases hk)
       GG eJ jo ω GH
      refine aq (dj ho ha (by rw[vv,mh];exact bk)) (hn _ _ _ _ _ _ _ h (xk.trans cI) ?_)
      simp only[VR]
      exact⟨by show au _ id _ id≠none;rw[aa];simp,hv.symm⟩
  ·cases h
 ·cases h
theorem gT.over{e:Ty}{cs zs:List Value}{l1 l2:List e.den}{n:Nat}(h1:gT w M e cs l1)(h2:gT w M e zs l2)(hn:n≤l1.length)(hc:l1.length*e.size≤cs.length)(hz:zs.length=l2.length*e.size)(hs:n*e.size+zs.length≤cs.length):
  gT w M e (bG cs (n*e.size) zs) (List.take n l1++l2):=by
 intro i hi
 rw[aQ,aT,c5 hn]at hi
 by_cases cy:i<n
 ·have:=bH (s:=e.size) cy
  rw[sN (.inl this) hs,oV (by rw[aT];omega),tg]
  exact h1 i ω
 ·have h3:=h2 (i-n) ω
  have Bq:i-n<l2.length:=ω
  have h4:=bH (s:=e.size) Bq
  have h5:i*e.size=n*e.size+(i-n)*e.size:=by rw[←bO];congr 1;omega
  have h6:((bG cs (n*e.size) zs).drop (i*e.size)).take e.size=(zs.drop ((i-n)*e.size)).take e.size:=by
   unfold bG
   have hl:(cs.take (n*e.size)).length=n*e.size:=by rw[aT];omega
   rw[h5,bq,←dE,gp hl,oS ω,oR (by rw[cT];omega)]
  rw[h6,s7 (by rw[aT];omega)]
  simp only[aT,c5 hn]
  exact h3
theorem pS{args:Array Operand}{t:TypeId}{x:Operand}{v:Value}{w':World}(ho:o.op= .call {callee:= .builtin .clear,args,argTypes:= #[t]})(ha:args.toList=[x])
  (h:(Builtin.clear_ #[t] o.type #[a.eval x]).run P w= .ok v w'):(execOp a.eval o).run P w= .ok (.value v) w':=by
 obtain⟨cs,hr⟩:=fN (P:=P) (ρ:=a.eval) ho (w:=w)
 rw[hr]
 have:args.map a.eval= #[a.eval x]:=by apply dt;simp[ha]
 rw[this]
 simp[builtin,h]
theorem Ei(hE:EnvTy P E)(hc:Core c σ a.tmps w M ν){args:Array Operand}{ts:Array TypeId}{t:TypeId}{x:Operand}(ho:o.op= .call {callee:= .builtin .clear,args,argTypes:=ts})(ha:args.toList=[x])(Kb:ts.toList=[t]){K:cN α}{e:Ty}
  (ht:E.ty t=some (.slice e)) (h:ow e (σ.ρ x) σ.H K=some r) (hn:cr c σ a o w M ν K r next):o.wp P a w next Q:=by
 have Kb:ts= #[t]:=by apply dt;simp[Kb]
 subst Kb
 have hv:=hc.ev x
 unfold ow at h
 split at h
 ·rename_i id e1 lo hx
  obtain⟨e2,h0⟩:=bB h
  clear h
  subst e2
  rw[hx]at hv
  simp only[VR]at hv
  obtain⟨Va,ad,n,cap,GF,hv⟩:=hv
  split at h0
  ·rename_i e3 l hid
   obtain⟨e4,h⟩:=aw h0
   clear h0
   cases e4
   obtain⟨e',hu,hle⟩:=(hE.ty t _ ht).slice
   obtain⟨i,hi,hs,hz,_⟩:=hle.base
   have dZ:=hc.mem.dd id _ hid
   simp only[ER]at dZ
   rcases gq lo l.length with cy|Ke
   ·rcases dZ with⟨rfl,_⟩|⟨b,cs,te,fP,hb,hg,hM,Cm,hl,sO,ir,hr⟩
    ·simp at cy
    ·rw[GF]at hb
     simp only[Value.slice.injEq]at hb
     obtain⟨rfl,rfl,rfl⟩:=hb
     rw[ag ω]at hv
     have J9:(aC e1 e1.aL).cells.size=e1.size:=by rw[←az,ct,eU]
     have Mu:Builtin.zeroCells (aC e1 e1.aL).cells (l.length-lo)=madeCells (aC e1 e1.aL).cells ((l.length-lo)*e1.size):=by
      unfold Builtin.zeroCells madeCells;rw[J9]
     have PZ:(madeCells (aC e1 e1.aL).cells ((l.length-lo)*e1.size)).toList.length=(l.length-lo)*e1.size:=by rw[az,size_madeCells]
     have qH: ∀u∈(madeCells (aC e1 e1.aL).cells ((l.length-lo)*e1.size)).toList,u.oneCell'=true:=by
      intro u hu
      have hm:u∈(aC e1 e1.aL).cells.toList:=by
       simp only[madeCells,Array.toList_map,cm]at hu
       obtain⟨j,hj,rfl⟩:=hu
       rw[Array.mem_toList_iff,Array.mem_range]at hj
       have h0:0<e1.size:=by
        rcases Nat.eq_zero_or_pos e1.size with h0|h0
        ·rw[h0]at hj;simp at hj
        ·exact h0
       have pJ:j%(aC e1 e1.aL).cells.size<(aC e1 e1.aL).cells.size:=Nat.mod_lt _ ω
       rw[getElem!_pos (aC e1 e1.aL).cells _ pJ]
       exact Array.getElem_mem_toList pJ
      rw[ct]at hm
      exact(Rd.zero w M e1).eE u hm
     have tX:lo*e1.size+(l.length-lo)*e1.size≤cs.size:=by
      rw[ir,←bO]
      exact dD _ ω
     have wj:=run_storeCells_at (P:=P) b (lo*e1.size) te (madeCells (aC e1 e1.aL).cells ((l.length-lo)*e1.size)).toList 0 cs w hg (by rw[PZ];omega) qH
     simp only[eR]at wj
     obtain⟨m,hm⟩: ∃m,l.length-lo=m+1:=⟨l.length-lo-1,ω⟩
     have bk:(Builtin.clear_ #[t] o.type #[a.eval x]).run P w= .ok (.tuple #[]) (w.setRow b (bG cs.toList (lo*e1.size) (madeCells (aC e1 e1.aL).cells ((l.length-lo)*e1.size)).toList).toArray):=by
      rw[hv]
      rw[hm]at wj Mu ⊢
      simp[Builtin.clear_,run_underlying hu,zeroValue,typeInfo,hi,hz,Addr.add_lit,Mu,wj,bG]
     have cI:=Tr.write (e':= .own e1 (List.take lo l++List.replicate (ℓ l-lo) e1.zero)) (new:=(bG cs.toList (lo*e1.size) (madeCells (aC e1 e1.aL).cells ((l.length-lo)*e1.size)).toList).toArray) hc.mem hid trivial trivial ⟨rfl,by simp;omega⟩ (by rw[GF];simp[bK];omega) hg (λwh hk ni=>by
      simp only[ER]
      refine .inr ⟨b,_,te,cap,?_,setRow_heap w b cs _ te _ hg,ni,Cm,by simp;omega,sO,?_,?_⟩
      ·rw[GF];simp;omega
      ·rw[dr,bD (by rw[PZ,az];exact tX),az,ir]
      ·have h1:gT w M e1 cs.toList l:=hr
       have h2:=gT.made w M e1 (n:=(l.length-lo)*e1.size) (l:=l.length-lo) (aB _)
       have h3:=gT.over h1 h2 (n:=lo) ω (cX (dD _ hl) (Nat.le_of_eq (by rw[az,ir]))) (by rw[PZ,a8]) (by rw[PZ,az];exact tX)
       exact h3.aK hk)
     exact aq (pS ho ha bk) (hn _ _ _ _ _ _ _ h cI (by simp[VR]))
   ·
    have vr:List.take lo l++List.replicate (ℓ l-lo) e1.zero=l:=by
     rw[eA Ke,show l.length-lo=0 from by omega];simp
    have Q3:n=l.length:=by
     obtain⟨PX,fP,hh⟩:=ER.tU (hc.mem.dd id _ hid)
     rw[GF]at hh;simp only[Value.slice.injEq]at hh;exact hh.2.1
    have bk:(Builtin.clear_ #[t] o.type #[a.eval x]).run P w= .ok (.tuple #[]) w:=by
     rw[hv,show n-lo=0 from by omega]
     cases(if cap=lo then ad else ad.map (·.add (lo*e1.size)))<;>simp[Builtin.clear_,run_underlying hu]
    have hH:au σ.H id (some (.own e1 l))=σ.H:=by
     funext j
     by_cases hj:j=id
     ·subst hj;rw[aa,hid]
     ·rw[ae _ _ hj]
    refine aq (pS ho ha bk) (hn _ _ _ _ _ M ν h ?_ (by simp[VR]))
    show Tr c σ.H w M ν (au σ.H id (some (.own e1 (List.take lo l++List.replicate (ℓ l-lo) e1.zero)))) w M ν
    rw[vr,hH]
    exact .refl hc.mem
  ·cases h0
 ·cases h
end VM
end
