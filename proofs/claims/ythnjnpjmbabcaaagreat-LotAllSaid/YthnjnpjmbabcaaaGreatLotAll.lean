/- This shows of any book the lots that it is cut into, or why there are none, and of any lots whether they are right. -/
import Derived.Test.YthnjnpjmbabcaaaGreatRows
import Derived.Test.YthnjnpjmbabcaaaGreatWalk0
import Derived.Test.YthnjnpjmbabcaaaGreatPlain4
import Derived.Test.YthnjnpjmbabcaaaGreatFacts
import Derived.WalkKit
import Derived.ProofKit
import Derived.OpenShut
import Derived.ShutString
import Derived.ChangeOld
import Derived.Below
import Derived.SizedLaws
set_option linter.all false
namespace Go.Proofs.YthnjnpjmbabcaaaGreat.lotAll
open Go.ChangeShapes Go.WideShapes Go.ChangeAt Go.RowKit
theorem own:ownKnob Tryz.prog.godebug=none:=κ
theorem laidOut:laidOutB Tryz.prog=true:=κ
set_option maxRecDepth 100000 in
theorem lifted(os:Os)(started:os.Started)(H:Type)(enc:TypeId×Value→H):
  ReturnsInHanded {} Tryz.checked os 3 .any (Rows.lotAllSpec.pre6 enc Tryz.prog Tryz.f3 Rows.lotAllRow.domain false) (Rows.lotAllSpec.post enc Tryz.prog Tryz.f3 false true false false):=by
 refine returnsInHanded_of_change_sized (C:=Tryz.checked) own started κ Tryz.func3
  (ChangeSpec.witness6 (enc:=enc) (C:=Tryz.checked) false ⟨#[],#[.agg #[.slice none 0 0,.int .i64 0,.int .i64 0,.int .i64 0,.int .i64 0,.int .i64 0,.int .i64 0],.agg #[.slice none 0 0,.slice none 0 0,.slice none 0 0,.slice none 0 0,.slice none 0 0,.slice none 0 0],.slice none 0 0,.int .i64 0,.int .i64 0],[]⟩ 8 κ κ κ κ) ?_
 intro W base args ds gs before Wh hW afm afn _
 have An: ∀(j:Nat) t v,Tryz.f3.params[j]? =some t→args[j]? =some v→Value.okWide Tryz.prog W .any base t v:=Wh
 have hW':=hW
 obtain⟨p,q,hA0,hV,rfl,Z8,oO⟩:=hW
 have hA:DataW.TrodAll enc Tryz.prog W 0 (λ_=>true) true Tryz.f3.params.toList args.toList ds p:=hA0
 obtain⟨⟨x,hx,TL⟩,I4⟩:=VM.Ja VM.yC.laidOut [(.pair (.slice (.pair (.int .i64) (.pair (.int .i64) (.pair (.int .i64) (.pair (.int .i64) .unit))))) (.pair (.int .i64) (.pair (.int .i64) (.pair (.int .i64) (.pair (.int .i64) (.pair (.int .i64) (.pair (.int .i64) .unit))))))),(.pair (.slice (.pair (.int .i64) (.pair (.int .i64) .unit))) (.pair (.slice (.pair (.int .i64) (.pair (.int .i64) (.pair (.int .i64) (.pair (.int .i64) .unit))))) (.pair (.slice (.pair (.int .i64) (.pair (.int .i64) (.pair (.int .i64) .unit)))) (.pair (.slice (.pair (.int .i64) (.pair (.int .i64) (.pair (.int .i64) .unit)))) (.pair (.slice (.int .i64)) (.pair (.slice (.pair (.int .i64) (.pair (.int .i64) (.pair (.int .i64) (.pair (.int .i64) (.pair (.int .i64) (.pair (.int .i64) .unit))))))) .unit)))))),(.slice (.pair (.int .i64) (.pair (.slice (.pair (.int .i64) (.pair (.int .i64) .unit))) (.pair (.int .i64) (.pair (.int .i64) (.pair (.int .i64) (.pair (.int .i64) .unit))))))),(.int .i64),(.int .i64)] hA κ An
 have hA1:DataW.TrodAll enc Tryz.prog W 0 (λ_=>true) true [24,32,33,2,2] args.toList ds p:=hA0
 obtain⟨v0,vs0,d0,ds0,p0,q0,Xc,rfl,qx,h0,r0⟩:=trodAll_cons hA1
 obtain⟨v1,Iy,d1,ds1,p1,q1,Sv,rfl,WW,h1,r1⟩:=trodAll_cons r0
 obtain⟨v2,X5,d2,ds2,p2,q2,ha2,rfl,hp2,h2,r2⟩:=trodAll_cons r1
 obtain⟨v3,vs3,d3,ds3,p3,q3,ha3,rfl,hp3,h3,r3⟩:=trodAll_cons r2
 obtain⟨v4,vs4,d4,ds4,p4,q4,ha4,rfl,hp4,h4,r4⟩:=trodAll_cons r3
 obtain⟨_,rfl,_⟩:=trodAll_nil r4
 obtain⟨rfl,rfl⟩:=trodVars_none hV
 obtain⟨N,hN⟩:=VM.Pure.P9 (x.1) (x.2.1) (x.2.2.1) (x.2.2.2.1) (x.2.2.2.2) TL
 have hC:=VM.GJ (VM.F.ZZ N) rfl Tryz.func3 [(.pair (.slice (.pair (.int .i64) (.pair (.int .i64) (.pair (.int .i64) (.pair (.int .i64) .unit))))) (.pair (.int .i64) (.pair (.int .i64) (.pair (.int .i64) (.pair (.int .i64) (.pair (.int .i64) (.pair (.int .i64) .unit))))))),(.pair (.slice (.pair (.int .i64) (.pair (.int .i64) .unit))) (.pair (.slice (.pair (.int .i64) (.pair (.int .i64) (.pair (.int .i64) (.pair (.int .i64) .unit))))) (.pair (.slice (.pair (.int .i64) (.pair (.int .i64) (.pair (.int .i64) .unit)))) (.pair (.slice (.pair (.int .i64) (.pair (.int .i64) (.pair (.int .i64) .unit)))) (.pair (.slice (.int .i64)) (.pair (.slice (.pair (.int .i64) (.pair (.int .i64) (.pair (.int .i64) (.pair (.int .i64) (.pair (.int .i64) (.pair (.int .i64) .unit))))))) .unit)))))),(.slice (.pair (.int .i64) (.pair (.slice (.pair (.int .i64) (.pair (.int .i64) .unit))) (.pair (.int .i64) (.pair (.int .i64) (.pair (.int .i64) (.pair (.int .i64) .unit))))))),(.int .i64),(.int .i64)] κ hx ((VM.F.Z0 N x).trans hN)
 rw[Array.toArray_toList]at hC
 refine hC.mono λe W' ⟨he,bel⟩=> ?_
 subst he
 obtain⟨vU,hb⟩:=I4 W' bel
 exact⟨_,rfl,_,_,_,[],_,[],hW',trodAll_mk1 (shut_bool Tryz.underlying4 _),hb,rfl,bel.frame _,λh=>by cases h⟩
theorem j0:Rows.lotAllRow.wf (OpenSpec.ofChange Rows.lotAllSpec)=true:=κ
theorem j3:Tryz.f3.params.all (Tryz.prog.readableRec ·)=true:=κ
theorem j4:namedTie Tryz.prog Rows.lotAllRow.named Rows.lotAllSpec.vars=true:=κ
theorem j5:(Rows.lotAllRow.stops==[])=true:=κ
theorem j7:(Rows.lotAllRow.knobs==[])=true:=κ
theorem j9:(Rows.lotAllRow.inPlace==Tryz.prog.inPlace 3)=true:=κ
theorem j10:(Rows.lotAllRow.unfollowed==Tryz.prog.unfollowed 3)=true:=κ
theorem j11:(Rows.lotAllRow.recurses==Tryz.prog.recurses 3)=true:=κ
theorem j12:(Rows.lotAllRow.named==Tryz.prog.varsNamed 3)=true:=κ
theorem SC:(Rows.lotAllRow.maps==(Tryz.f3.params.toList++Rows.lotAllSpec.plain.varTypes Tryz.prog).any (Tryz.prog.mapsRec ·))=true:=κ
theorem j14:(Rows.lotAllRow.ifaces==(Tryz.f3.params.toList++Rows.lotAllSpec.plain.varTypes Tryz.prog).any (Tryz.prog.ifacesRec ·))=true:=κ
theorem j15:(Rows.lotAllRow.mapsOut==Tryz.prog.mapsAmong Tryz.f3.resultTypes.toList)=true:=κ
theorem j16:(Rows.lotAllRow.loops==(Tryz.f3.params.toList++Rows.lotAllSpec.plain.varTypes Tryz.prog).any (Tryz.prog.loopsFrom ·))=true:=κ
theorem j17:(Rows.lotAllRow.wideKeys==(Tryz.f3.params.toList++Rows.lotAllSpec.plain.varTypes Tryz.prog++Tryz.f3.resultTypes.toList).any (Tryz.prog.wideKeysFrom ·))=true:=κ
theorem j18:Rows.lotAllSpec.vars.all (Tryz.prog.varReadable ·)=true:=κ
theorem j19:Tryz.f3.resultTypes.all (λt=>Tryz.prog.readableRec t&&decide (t<Tryz.prog.types.size))=true:=κ
theorem j20:(Rows.lotAllRow.ifacesOut==Tryz.f3.resultTypes.toList.any (Tryz.prog.ifacesRec ·))=true:=κ
theorem NR:(Rows.lotAllRow.loopsOut==Tryz.f3.resultTypes.toList.any (Tryz.prog.loopsFrom ·))=true:=κ
theorem j23:Rows.lotAllRow.shortTexts.isNone=true:=κ
theorem NS:(Rows.lotAllRow.kinds==(if Rows.lotAllRow.domain.isEmpty then []else Tryz.f3.params.toList.map λt=>match Tryz.prog.underlying t with|some (.int k)=>some k|_=>none))=true:=κ
theorem J0:(Rows.lotAllRow.pinned==Rows.lotAllRow.pinnedBy)=true:=κ
theorem j30:(Rows.lotAllRow.veiled==(Tryz.f3.params.toList++Rows.lotAllSpec.plain.varTypes Tryz.prog++Tryz.f3.resultTypes.toList).any (Tryz.prog.veiledRec ·))=true:=κ
theorem j31:Rows.lotAllRow.veiledFits Tryz.prog Tryz.f3.params.toList (Tryz.f3.params.toList++Rows.lotAllSpec.plain.varTypes Tryz.prog++Tryz.f3.resultTypes.toList)=true:=κ
theorem cI{a b:Bool}(h:a=true)(k:b=true):(a&&b)=true:=by rw[h,k];rfl
set_option maxRecDepth 100000 in
theorem closed:joinedFacts Tryz.prog 3 Tryz.f3 Rows.lotAllSpec Rows.lotAllRow=true:=by
 unfold joinedFacts
 exact cI (cI (cI (cI (cI (cI (cI (cI (cI (cI (cI (cI (cI (cI (cI (cI (cI (cI (cI (cI (cI (cI (cI (cI (cI (cI (cI (cI (cI (cI (cI j0 VM.yC.laidOut) VM.yC.No) j3) j4) j5) VM.yC.Np) j7) VM.yC.Nq) j9) j10) j11) j12) SC) j14) j15) j16) j17) j18) j19) j20) NR) VM.yC.plainKeys) j23) VM.yC.heard) VM.yC.enter) VM.yC.Wg) VM.yC.make) NS) J0) j30) j31
theorem GL:Tryz.prog.funcNamed Rows.lotAllRow.func=some 3:=κ
theorem wrap:Tryz.f3.isWrapper Tryz.prog Rows.lotAllRow.wrapper Rows.lotAllRow.mainSum:=by
 unfold Func.isWrapper
 first|(rw[ae (by decide+kernel)];kernel_rfl)|(rw[af (by decide+kernel)];exact⟨rfl,rfl⟩)
theorem over:Rows.lotAllRow.holds Tryz.pinned (OpenSpec.ofChange Rows.lotAllSpec):=
 OpenClaim.holds_of_wide 3 Tryz.f3 rfl rfl rfl rfl rfl rfl rfl ⟨rfl,rfl,rfl,rfl,rfl⟩ rfl rfl rfl rfl rfl GL Tryz.func3 closed (bO κ) wrap
  (λos started H enc _=>lifted os started H enc)
theorem proved:Rows.LotAllSaid:=over
#print axioms proved
end Go.Proofs.YthnjnpjmbabcaaaGreat.lotAll
namespace Go.Proofs.YthnjnpjmbabcaaaGreat
theorem lotAll_holds:Rows.LotAllSaid:=lotAll.proved
end Go.Proofs.YthnjnpjmbabcaaaGreat
