/- HedgeFills, of layer 22, holds: for every list of numbers it answers true and does not panic. There are no further conditions: whatever arguments the given row allows. -/
import Derived.Test.YtocmlaipoebfeaaGreatRows
import Derived.Test.YtocmlaipoebfeaaGreatWalk0
import Derived.Test.YtocmlaipoebfeaaGreatPlain8
import Derived.Test.YtocmlaipoebfeaaGreatFacts
import Derived.WalkKit
import Derived.ProofKit
import Derived.OpenShut
import Derived.ShutString
import Derived.ChangeOld
import Derived.Below
import Derived.SizedLaws
set_option linter.all false
namespace Go.Proofs.YtocmlaipoebfeaaGreat.hedgeFills
open Go.ChangeShapes Go.WideShapes Go.ChangeAt Go.RowKit
theorem own:ownKnob Tryz.prog.godebug=none:=by kernel_rfl
theorem laidOut:laidOutB Tryz.prog=true:=by kernel_rfl
set_option maxRecDepth 100000 in
theorem lifted(os:Os)(started:os.Started)(H:Type)(enc:TypeId×Value→H):
  ReturnsInHanded {} Tryz.checked os 11 .any (Rows.hedgeFillsSpec.pre6 enc Tryz.prog Tryz.f11 Rows.hedgeFillsRow.domain false) (Rows.hedgeFillsSpec.post enc Tryz.prog Tryz.f11 false true false false):=by
 refine returnsInHanded_of_change_sized (C:=Tryz.checked) own started (by kernel_rfl) Tryz.func11
  (ChangeSpec.witness6 (enc:=enc) (C:=Tryz.checked) false ⟨#[],#[.slice none 0 0],[]⟩ 8 (by kernel_rfl) (by kernel_rfl) (by kernel_rfl) (by kernel_rfl)) ?_
 intro W base args ds gs before alp hW awH awI _
 have D4: ∀(j:Nat) t v,Tryz.f11.params[j]? =some t→args[j]? =some v→Value.okWide Tryz.prog W .any base t v:=alp
 have hW':=hW
 obtain⟨p,q,hA0,hV,rfl,hfz,u7⟩:=hW
 have hA:DataW.TrodAll enc Tryz.prog W 0 (fun _=>true) true Tryz.f11.params.toList args.toList ds p:=hA0
 obtain⟨⟨x,hx,hwx⟩,Qr⟩:=VM.Qx VM.By.laidOut [(.slice (.int .u64))] hA (by kernel_rfl) D4
 have hA1:DataW.TrodAll enc Tryz.prog W 0 (fun _=>true) true [22] args.toList ds p:=hA0
 obtain⟨v0,vs0,d0,ds0,p0,q0,ha0,rfl,Pu,h0,r0⟩:=trodAll_cons hA1
 obtain⟨_,rfl,_⟩:=trodAll_nil r0
 obtain⟨rfl,rfl⟩:=trodVars_none hV
 obtain⟨N,hN⟩:=VM.Pure.Ln (x) hwx
 have hC:=VM.NL (VM.F.alm N) rfl Tryz.func11 [(.slice (.int .u64))] (by kernel_rfl) hx ((VM.F.aln N x).trans hN)
 rw[Array.toArray_toList]at hC
 refine hC.mono fun e W' ⟨he,bel⟩=> ?_
 subst he
 obtain⟨BV,hb⟩:=Qr W' bel
 exact⟨_,rfl,_,_,_,[],_,[],hW',trodAll_mk1 (shut_bool Tryz.underlying4 _),hb,rfl,bel.frame _,fun h=>by cases h⟩
theorem j0:Rows.hedgeFillsRow.wf (OpenSpec.ofChange Rows.hedgeFillsSpec)=true:=by kernel_rfl
theorem j3:Tryz.f11.params.all (Tryz.prog.readableRec ·)=true:=by kernel_rfl
theorem j4:namedTie Tryz.prog Rows.hedgeFillsRow.named Rows.hedgeFillsSpec.vars=true:=by kernel_rfl
theorem j5:(Rows.hedgeFillsRow.stops==[])=true:=by kernel_rfl
theorem j7:(Rows.hedgeFillsRow.knobs==[])=true:=by kernel_rfl
theorem j9:(Rows.hedgeFillsRow.inPlace==Tryz.prog.inPlace 11)=true:=by kernel_rfl
theorem R4:(Rows.hedgeFillsRow.unfollowed==Tryz.prog.unfollowed 11)=true:=by kernel_rfl
theorem JO:(Rows.hedgeFillsRow.recurses==Tryz.prog.recurses 11)=true:=by kernel_rfl
theorem j12:(Rows.hedgeFillsRow.named==Tryz.prog.varsNamed 11)=true:=by kernel_rfl
theorem JM:(Rows.hedgeFillsRow.maps==(Tryz.f11.params.toList++Rows.hedgeFillsSpec.plain.varTypes Tryz.prog).any (Tryz.prog.mapsRec ·))=true:=by kernel_rfl
theorem j14:(Rows.hedgeFillsRow.ifaces==(Tryz.f11.params.toList++Rows.hedgeFillsSpec.plain.varTypes Tryz.prog).any (Tryz.prog.ifacesRec ·))=true:=by kernel_rfl
theorem rA:(Rows.hedgeFillsRow.mapsOut==Tryz.prog.mapsAmong Tryz.f11.resultTypes.toList)=true:=by kernel_rfl
theorem j16:(Rows.hedgeFillsRow.loops==(Tryz.f11.params.toList++Rows.hedgeFillsSpec.plain.varTypes Tryz.prog).any (Tryz.prog.loopsFrom ·))=true:=by kernel_rfl
theorem j17:(Rows.hedgeFillsRow.wideKeys==(Tryz.f11.params.toList++Rows.hedgeFillsSpec.plain.varTypes Tryz.prog++Tryz.f11.resultTypes.toList).any (Tryz.prog.wideKeysFrom ·))=true:=by kernel_rfl
theorem j18:Rows.hedgeFillsSpec.vars.all (Tryz.prog.varReadable ·)=true:=by kernel_rfl
theorem j19:Tryz.f11.resultTypes.all (fun t=>Tryz.prog.readableRec t&&decide (t<Tryz.prog.types.size))=true:=by kernel_rfl
theorem j20:(Rows.hedgeFillsRow.ifacesOut==Tryz.f11.resultTypes.toList.any (Tryz.prog.ifacesRec ·))=true:=by kernel_rfl
theorem Gy:(Rows.hedgeFillsRow.loopsOut==Tryz.f11.resultTypes.toList.any (Tryz.prog.loopsFrom ·))=true:=by kernel_rfl
theorem j23:Rows.hedgeFillsRow.shortTexts.isNone=true:=by kernel_rfl
theorem j28:(Rows.hedgeFillsRow.kinds==(if Rows.hedgeFillsRow.domain.isEmpty then []else Tryz.f11.params.toList.map fun t=>match Tryz.prog.underlying t with|some (.int k)=>some k|_=>none))=true:=by kernel_rfl
theorem Sb:(Rows.hedgeFillsRow.pinned==Rows.hedgeFillsRow.pinnedBy)=true:=by kernel_rfl
theorem j30:(Rows.hedgeFillsRow.veiled==(Tryz.f11.params.toList++Rows.hedgeFillsSpec.plain.varTypes Tryz.prog++Tryz.f11.resultTypes.toList).any (Tryz.prog.veiledRec ·))=true:=by kernel_rfl
theorem j31:Rows.hedgeFillsRow.veiledFits Tryz.prog Tryz.f11.params.toList (Tryz.f11.params.toList++Rows.hedgeFillsSpec.plain.varTypes Tryz.prog++Tryz.f11.resultTypes.toList)=true:=by kernel_rfl
theorem da{a b:Bool}(h:a=true)(k:b=true):(a&&b)=true:=by rw[h,k];rfl
set_option maxRecDepth 100000 in
theorem closed:joinedFacts Tryz.prog 11 Tryz.f11 Rows.hedgeFillsSpec Rows.hedgeFillsRow=true:=by
 unfold joinedFacts
 exact da (da (da (da (da (da (da (da (da (da (da (da (da (da (da (da (da (da (da (da (da (da (da (da (da (da (da (da (da (da (da j0 VM.By.laidOut) VM.By.Z3) j3) j4) j5) VM.By.Z4) j7) VM.By.Z5) j9) R4) JO) j12) JM) j14) rA) j16) j17) j18) j19) j20) Gy) VM.By.plainKeys) j23) VM.By.heard) VM.By.enter) VM.By.alo) VM.By.make) j28) Sb) j30) j31
theorem at':Tryz.prog.funcNamed Rows.hedgeFillsRow.func=some 11:=by kernel_rfl
theorem wrap:Tryz.f11.isWrapper Tryz.prog Rows.hedgeFillsRow.wrapper Rows.hedgeFillsRow.mainSum:=by
 unfold Func.isWrapper
 first|(rw[if_pos (by decide+kernel)];kernel_rfl)|(rw[if_neg (by decide+kernel)];exact⟨rfl,rfl⟩)
theorem over:Rows.hedgeFillsRow.holds Tryz.pinned (OpenSpec.ofChange Rows.hedgeFillsSpec):=
 OpenClaim.holds_of_wide 11 Tryz.f11 rfl rfl rfl rfl rfl rfl rfl ⟨rfl,rfl,rfl,rfl,rfl⟩ rfl rfl rfl rfl rfl at' Tryz.func11 closed (of_decide_eq_true (by kernel_rfl)) wrap
  (fun os started H enc _=>lifted os started H enc)
theorem proved:Rows.HedgeFillsSaid:=over
#print axioms proved
end Go.Proofs.YtocmlaipoebfeaaGreat.hedgeFills
namespace Go.Proofs.YtocmlaipoebfeaaGreat
theorem hedgeFills_holds:Rows.HedgeFillsSaid:=hedgeFills.proved
end Go.Proofs.YtocmlaipoebfeaaGreat
