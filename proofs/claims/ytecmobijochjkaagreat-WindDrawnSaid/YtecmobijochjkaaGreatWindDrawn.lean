/- WindDrawn, of layer 21, holds: for every list of numbers it answers true and does not panic. There are no further conditions: whatever arguments the given row allows. -/
import Derived.Test.YtecmobijochjkaaGreatRows
import Derived.Test.YtecmobijochjkaaGreatWalk0
import Derived.Test.YtecmobijochjkaaGreatPlain9
import Derived.Test.YtecmobijochjkaaGreatFacts
import Derived.WalkKit
import Derived.ProofKit
import Derived.OpenShut
import Derived.ShutString
import Derived.ChangeOld
import Derived.Below
import Derived.SizedLaws
set_option linter.all false
namespace Go.Proofs.YtecmobijochjkaaGreat.windDrawn
open Go.ChangeShapes Go.WideShapes Go.ChangeAt Go.RowKit
theorem own:ownKnob Tryz.prog.godebug=none:=κ
theorem laidOut:laidOutB Tryz.prog=true:=κ
set_option maxRecDepth 100000 in
theorem lifted(os:Os)(started:os.Started)(H:Type)(enc:TypeId×Value→H):
  ReturnsInHanded {} Tryz.checked os 3 .any (Rows.windDrawnSpec.pre6 enc Tryz.prog Tryz.f3 Rows.windDrawnRow.domain false) (Rows.windDrawnSpec.post enc Tryz.prog Tryz.f3 false true false false):=by
 refine returnsInHanded_of_change_sized (C:=Tryz.checked) own started κ Tryz.func3
  (ChangeSpec.witness6 (enc:=enc) (C:=Tryz.checked) false ⟨#[],#[.slice none 0 0],[]⟩ 8 κ κ κ κ) ?_
 intro W base args ds gs before apN hW aAO aAP _
 have JM: ∀(j:Nat) t v,Tryz.f3.params[j]? =some t→args[j]? =some v→Value.okWide Tryz.prog W .any base t v:=apN
 have hW':=hW
 obtain⟨p,q,hA0,hV,rfl,hfz,xP⟩:=hW
 have hA:DataW.TrodAll enc Tryz.prog W 0 (λ_=>true) true Tryz.f3.params.toList args.toList ds p:=hA0
 obtain⟨⟨x,hx,hwx⟩,VK⟩:=VM.VS VM.GA.laidOut [(.slice (.int .u64))] hA κ JM
 have hA1:DataW.TrodAll enc Tryz.prog W 0 (λ_=>true) true [22] args.toList ds p:=hA0
 obtain⟨v0,vs0,d0,ds0,p0,q0,ha0,rfl,hp0,h0,r0⟩:=trodAll_cons hA1
 obtain⟨_,rfl,_⟩:=trodAll_nil r0
 obtain⟨rfl,rfl⟩:=trodVars_none hV
 obtain⟨N,hN⟩:=VM.Pure.Ux (x) hwx
 have hC:=VM.S7 (VM.F.avI N) rfl Tryz.func3 [(.slice (.int .u64))] κ hx ((VM.F.avJ N x).trans hN)
 rw[Array.toArray_toList]at hC
 refine hC.mono λe W' ⟨he,bel⟩=> ?_
 subst he
 obtain⟨GK,hb⟩:=VK W' bel
 exact⟨_,rfl,_,_,_,[],_,[],hW',trodAll_mk1 (shut_bool Tryz.underlying4 _),hb,rfl,bel.frame _,λh=>by cases h⟩
theorem j0:Rows.windDrawnRow.wf (OpenSpec.ofChange Rows.windDrawnSpec)=true:=κ
theorem j3:Tryz.f3.params.all (Tryz.prog.readableRec ·)=true:=κ
theorem j4:namedTie Tryz.prog Rows.windDrawnRow.named Rows.windDrawnSpec.vars=true:=κ
theorem j5:(Rows.windDrawnRow.stops==[])=true:=κ
theorem j7:(Rows.windDrawnRow.knobs==[])=true:=κ
theorem j9:(Rows.windDrawnRow.inPlace==Tryz.prog.inPlace 3)=true:=κ
theorem Hy:(Rows.windDrawnRow.unfollowed==Tryz.prog.unfollowed 3)=true:=κ
theorem IX:(Rows.windDrawnRow.recurses==Tryz.prog.recurses 3)=true:=κ
theorem j12:(Rows.windDrawnRow.named==Tryz.prog.varsNamed 3)=true:=κ
theorem RS:(Rows.windDrawnRow.maps==(Tryz.f3.params.toList++Rows.windDrawnSpec.plain.varTypes Tryz.prog).any (Tryz.prog.mapsRec ·))=true:=κ
theorem UR:(Rows.windDrawnRow.ifaces==(Tryz.f3.params.toList++Rows.windDrawnSpec.plain.varTypes Tryz.prog).any (Tryz.prog.ifacesRec ·))=true:=κ
theorem AU:(Rows.windDrawnRow.mapsOut==Tryz.prog.mapsAmong Tryz.f3.resultTypes.toList)=true:=κ
theorem j16:(Rows.windDrawnRow.loops==(Tryz.f3.params.toList++Rows.windDrawnSpec.plain.varTypes Tryz.prog).any (Tryz.prog.loopsFrom ·))=true:=κ
theorem j17:(Rows.windDrawnRow.wideKeys==(Tryz.f3.params.toList++Rows.windDrawnSpec.plain.varTypes Tryz.prog++Tryz.f3.resultTypes.toList).any (Tryz.prog.wideKeysFrom ·))=true:=κ
theorem j18:Rows.windDrawnSpec.vars.all (Tryz.prog.varReadable ·)=true:=κ
theorem j19:Tryz.f3.resultTypes.all (λt=>Tryz.prog.readableRec t&&decide (t<Tryz.prog.types.size))=true:=κ
theorem j20:(Rows.windDrawnRow.ifacesOut==Tryz.f3.resultTypes.toList.any (Tryz.prog.ifacesRec ·))=true:=κ
theorem j21:(Rows.windDrawnRow.loopsOut==Tryz.f3.resultTypes.toList.any (Tryz.prog.loopsFrom ·))=true:=κ
theorem j23:Rows.windDrawnRow.shortTexts.isNone=true:=κ
theorem j28:(Rows.windDrawnRow.kinds==(if Rows.windDrawnRow.domain.isEmpty then []else Tryz.f3.params.toList.map λt=>match Tryz.prog.underlying t with|some (.int k)=>some k|_=>none))=true:=κ
theorem T7:(Rows.windDrawnRow.pinned==Rows.windDrawnRow.pinnedBy)=true:=κ
theorem j30:(Rows.windDrawnRow.veiled==(Tryz.f3.params.toList++Rows.windDrawnSpec.plain.varTypes Tryz.prog++Tryz.f3.resultTypes.toList).any (Tryz.prog.veiledRec ·))=true:=κ
theorem j31:Rows.windDrawnRow.veiledFits Tryz.prog Tryz.f3.params.toList (Tryz.f3.params.toList++Rows.windDrawnSpec.plain.varTypes Tryz.prog++Tryz.f3.resultTypes.toList)=true:=κ
theorem eD{a b:Bool}(h:a=true)(k:b=true):(a&&b)=true:=by rw[h,k];rfl
set_option maxRecDepth 100000 in
theorem closed:joinedFacts Tryz.prog 3 Tryz.f3 Rows.windDrawnSpec Rows.windDrawnRow=true:=by
 unfold joinedFacts
 exact eD (eD (eD (eD (eD (eD (eD (eD (eD (eD (eD (eD (eD (eD (eD (eD (eD (eD (eD (eD (eD (eD (eD (eD (eD (eD (eD (eD (eD (eD (eD j0 VM.GA.laidOut) VM.GA.afn) j3) j4) j5) VM.GA.afo) j7) VM.GA.afp) j9) Hy) IX) j12) RS) UR) AU) j16) j17) j18) j19) j20) j21) VM.GA.plainKeys) j23) VM.GA.heard) VM.GA.enter) VM.GA.apM) VM.GA.make) j28) T7) j30) j31
theorem Pu:Tryz.prog.funcNamed Rows.windDrawnRow.func=some 3:=κ
theorem wrap:Tryz.f3.isWrapper Tryz.prog Rows.windDrawnRow.wrapper Rows.windDrawnRow.mainSum:=by
 unfold Func.isWrapper
 first|(rw[aj (by decide+kernel)];kernel_rfl)|(rw[ah (by decide+kernel)];exact⟨rfl,rfl⟩)
theorem over:Rows.windDrawnRow.holds Tryz.pinned (OpenSpec.ofChange Rows.windDrawnSpec):=
 OpenClaim.holds_of_wide 3 Tryz.f3 rfl rfl rfl rfl rfl rfl rfl ⟨rfl,rfl,rfl,rfl,rfl⟩ rfl rfl rfl rfl rfl Pu Tryz.func3 closed (bz κ) wrap
  (λos started H enc _=>lifted os started H enc)
theorem proved:Rows.WindDrawnSaid:=over
#print axioms proved
end Go.Proofs.YtecmobijochjkaaGreat.windDrawn
namespace Go.Proofs.YtecmobijochjkaaGreat
theorem windDrawn_holds:Rows.WindDrawnSaid:=windDrawn.proved
end Go.Proofs.YtecmobijochjkaaGreat
