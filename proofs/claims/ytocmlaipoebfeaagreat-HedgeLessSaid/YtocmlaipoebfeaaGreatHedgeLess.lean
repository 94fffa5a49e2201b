/- HedgeLess, of layer 22, holds: for every list of numbers it answers true and does not panic. There are no further conditions: whatever arguments the given row allows. -/
import Derived.Test.YtocmlaipoebfeaaGreatRows
import Derived.Test.YtocmlaipoebfeaaGreatWalk0
import Derived.Test.YtocmlaipoebfeaaGreatPlain10
import Derived.Test.YtocmlaipoebfeaaGreatFacts
import Derived.WalkKit
import Derived.ProofKit
import Derived.OpenShut
import Derived.ShutString
import Derived.ChangeOld
import Derived.Below
import Derived.SizedLaws
set_option linter.all false
namespace Go.Proofs.YtocmlaipoebfeaaGreat.hedgeLess
open Go.ChangeShapes Go.WideShapes Go.ChangeAt Go.RowKit
theorem own:ownKnob Tryz.prog.godebug=none:=κ
theorem laidOut:laidOutB Tryz.prog=true:=κ
set_option maxRecDepth 100000 in
theorem lifted(os:Os)(started:os.Started)(H:Type)(enc:TypeId×Value→H):
  ReturnsInHanded {} Tryz.checked os 10 .any (Rows.hedgeLessSpec.pre6 enc Tryz.prog Tryz.f10 Rows.hedgeLessRow.domain false) (Rows.hedgeLessSpec.post enc Tryz.prog Tryz.f10 false true false false):=by
 refine returnsInHanded_of_change_sized (C:=Tryz.checked) own started κ Tryz.func10
  (ChangeSpec.witness6 (enc:=enc) (C:=Tryz.checked) false ⟨#[],#[.slice none 0 0],[]⟩ 8 κ κ κ κ) ?_
 intro W base args ds gs before atN hW aET aEU _
 have F2: ∀(j:Nat) t v,Tryz.f10.params[j]? =some t→args[j]? =some v→Value.okWide Tryz.prog W .any base t v:=atN
 have hW':=hW
 obtain⟨p,q,hA0,hV,rfl,hfz,yN⟩:=hW
 have hA:DataW.TrodAll enc Tryz.prog W 0 (λ_=>true) true Tryz.f10.params.toList args.toList ds p:=hA0
 obtain⟨⟨x,hx,hwx⟩,Yi⟩:=VM.Yo VM.HY.laidOut [(.slice (.int .u64))] hA κ F2
 have hA1:DataW.TrodAll enc Tryz.prog W 0 (λ_=>true) true [22] args.toList ds p:=hA0
 obtain⟨v0,vs0,d0,ds0,p0,q0,ha0,rfl,Xj,h0,r0⟩:=trodAll_cons hA1
 obtain⟨_,rfl,_⟩:=trodAll_nil r0
 obtain⟨rfl,rfl⟩:=trodVars_none hV
 obtain⟨N,hN⟩:=VM.Pure.VP (x) hwx
 have hC:=VM.Vr (VM.F.atK N) rfl Tryz.func10 [(.slice (.int .u64))] κ hx ((VM.F.atL N x).trans hN)
 rw[Array.toArray_toList]at hC
 refine hC.mono λe W' ⟨he,bel⟩=> ?_
 subst he
 obtain⟨H9,hb⟩:=Yi W' bel
 exact⟨_,rfl,_,_,_,[],_,[],hW',trodAll_mk1 (shut_bool Tryz.underlying4 _),hb,rfl,bel.frame _,λh=>by cases h⟩
theorem j0:Rows.hedgeLessRow.wf (OpenSpec.ofChange Rows.hedgeLessSpec)=true:=κ
theorem j3:Tryz.f10.params.all (Tryz.prog.readableRec ·)=true:=κ
theorem j4:namedTie Tryz.prog Rows.hedgeLessRow.named Rows.hedgeLessSpec.vars=true:=κ
theorem j5:(Rows.hedgeLessRow.stops==[])=true:=κ
theorem j7:(Rows.hedgeLessRow.knobs==[])=true:=κ
theorem j9:(Rows.hedgeLessRow.inPlace==Tryz.prog.inPlace 10)=true:=κ
theorem SJ:(Rows.hedgeLessRow.unfollowed==Tryz.prog.unfollowed 10)=true:=κ
theorem Kl:(Rows.hedgeLessRow.recurses==Tryz.prog.recurses 10)=true:=κ
theorem j12:(Rows.hedgeLessRow.named==Tryz.prog.varsNamed 10)=true:=κ
theorem Lp:(Rows.hedgeLessRow.maps==(Tryz.f10.params.toList++Rows.hedgeLessSpec.plain.varTypes Tryz.prog).any (Tryz.prog.mapsRec ·))=true:=κ
theorem j14:(Rows.hedgeLessRow.ifaces==(Tryz.f10.params.toList++Rows.hedgeLessSpec.plain.varTypes Tryz.prog).any (Tryz.prog.ifacesRec ·))=true:=κ
theorem ze:(Rows.hedgeLessRow.mapsOut==Tryz.prog.mapsAmong Tryz.f10.resultTypes.toList)=true:=κ
theorem j16:(Rows.hedgeLessRow.loops==(Tryz.f10.params.toList++Rows.hedgeLessSpec.plain.varTypes Tryz.prog).any (Tryz.prog.loopsFrom ·))=true:=κ
theorem j17:(Rows.hedgeLessRow.wideKeys==(Tryz.f10.params.toList++Rows.hedgeLessSpec.plain.varTypes Tryz.prog++Tryz.f10.resultTypes.toList).any (Tryz.prog.wideKeysFrom ·))=true:=κ
theorem j18:Rows.hedgeLessSpec.vars.all (Tryz.prog.varReadable ·)=true:=κ
theorem j19:Tryz.f10.resultTypes.all (λt=>Tryz.prog.readableRec t&&decide (t<Tryz.prog.types.size))=true:=κ
theorem j20:(Rows.hedgeLessRow.ifacesOut==Tryz.f10.resultTypes.toList.any (Tryz.prog.ifacesRec ·))=true:=κ
theorem Xl:(Rows.hedgeLessRow.loopsOut==Tryz.f10.resultTypes.toList.any (Tryz.prog.loopsFrom ·))=true:=κ
theorem j23:Rows.hedgeLessRow.shortTexts.isNone=true:=κ
theorem j28:(Rows.hedgeLessRow.kinds==(if Rows.hedgeLessRow.domain.isEmpty then []else Tryz.f10.params.toList.map λt=>match Tryz.prog.underlying t with|some (.int k)=>some k|_=>none))=true:=κ
theorem WI:(Rows.hedgeLessRow.pinned==Rows.hedgeLessRow.pinnedBy)=true:=κ
theorem j30:(Rows.hedgeLessRow.veiled==(Tryz.f10.params.toList++Rows.hedgeLessSpec.plain.varTypes Tryz.prog++Tryz.f10.resultTypes.toList).any (Tryz.prog.veiledRec ·))=true:=κ
theorem j31:Rows.hedgeLessRow.veiledFits Tryz.prog Tryz.f10.params.toList (Tryz.f10.params.toList++Rows.hedgeLessSpec.plain.varTypes Tryz.prog++Tryz.f10.resultTypes.toList)=true:=κ
theorem eS{a b:Bool}(h:a=true)(k:b=true):(a&&b)=true:=by rw[h,k];rfl
set_option maxRecDepth 100000 in
theorem closed:joinedFacts Tryz.prog 10 Tryz.f10 Rows.hedgeLessSpec Rows.hedgeLessRow=true:=by
 unfold joinedFacts
 exact eS (eS (eS (eS (eS (eS (eS (eS (eS (eS (eS (eS (eS (eS (eS (eS (eS (eS (eS (eS (eS (eS (eS (eS (eS (eS (eS (eS (eS (eS (eS j0 VM.HY.laidOut) VM.HY.ah9) j3) j4) j5) VM.HY.aia) j7) VM.HY.aib) j9) SJ) Kl) j12) Lp) j14) ze) j16) j17) j18) j19) j20) Xl) VM.HY.plainKeys) j23) VM.HY.heard) VM.HY.enter) VM.HY.atM) VM.HY.make) j28) WI) j30) j31
theorem at':Tryz.prog.funcNamed Rows.hedgeLessRow.func=some 10:=κ
theorem wrap:Tryz.f10.isWrapper Tryz.prog Rows.hedgeLessRow.wrapper Rows.hedgeLessRow.mainSum:=by
 unfold Func.isWrapper
 first|(rw[ah (by decide+kernel)];kernel_rfl)|(rw[aj (by decide+kernel)];exact⟨rfl,rfl⟩)
theorem over:Rows.hedgeLessRow.holds Tryz.pinned (OpenSpec.ofChange Rows.hedgeLessSpec):=
 OpenClaim.holds_of_wide 10 Tryz.f10 rfl rfl rfl rfl rfl rfl rfl ⟨rfl,rfl,rfl,rfl,rfl⟩ rfl rfl rfl rfl rfl at' Tryz.func10 closed (bA κ) wrap
  (λos started H enc _=>lifted os started H enc)
theorem proved:Rows.HedgeLessSaid:=over
#print axioms proved
end Go.Proofs.YtocmlaipoebfeaaGreat.hedgeLess
namespace Go.Proofs.YtocmlaipoebfeaaGreat
theorem hedgeLess_holds:Rows.HedgeLessSaid:=hedgeLess.proved
end Go.Proofs.YtocmlaipoebfeaaGreat
