/- AwardBest, of layer 25, holds: for every list of numbers it answers true and does not panic. There are no further conditions: whatever arguments the given row allows. -/
import Derived.Test.YtocmlaipoebfeaaGreatRows
import Derived.Test.YtocmlaipoebfeaaGreatWalk0
import Derived.Test.YtocmlaipoebfeaaGreatPlain6
import Derived.Test.YtocmlaipoebfeaaGreatFacts
import Derived.WalkKit
import Derived.ProofKit
import Derived.OpenShut
import Derived.ShutString
import Derived.ChangeOld
import Derived.Below
import Derived.SizedLaws
set_option linter.all false
namespace Go.Proofs.YtocmlaipoebfeaaGreat.awardBest
open Go.ChangeShapes Go.WideShapes Go.ChangeAt Go.RowKit
theorem own:ownKnob Tryz.prog.godebug=none:=by kernel_rfl
theorem laidOut:laidOutB Tryz.prog=true:=by kernel_rfl
set_option maxRecDepth 100000 in
theorem lifted(os:Os)(started:os.Started)(H:Type)(enc:TypeId×Value→H):
  ReturnsInHanded {} Tryz.checked os 4 .any (Rows.awardBestSpec.pre6 enc Tryz.prog Tryz.f4 Rows.awardBestRow.domain false) (Rows.awardBestSpec.post enc Tryz.prog Tryz.f4 false true false false):=by
 refine returnsInHanded_of_change_sized (C:=Tryz.checked) own started (by kernel_rfl) Tryz.func4
  (ChangeSpec.witness6 (enc:=enc) (C:=Tryz.checked) false ⟨#[],#[.slice none 0 0],[]⟩ 8 (by kernel_rfl) (by kernel_rfl) (by kernel_rfl) (by kernel_rfl)) ?_
 intro W base args ds gs before afZ hW ap7 ap8 _
 have BB: ∀(j:Nat) t v,Tryz.f4.params[j]? =some t→args[j]? =some v→Value.okWide Tryz.prog W .any base t v:=afZ
 have hW':=hW
 obtain⟨p,q,hA0,hV,rfl,hfz,td⟩:=hW
 have hA:DataW.TrodAll enc Tryz.prog W 0 (fun _=>true) true Tryz.f4.params.toList args.toList ds p:=hA0
 obtain⟨⟨x,hx,hwx⟩,Mt⟩:=VM.MA VM.zk.laidOut [(.slice (.int .u64))] hA (by kernel_rfl) BB
 have hA1:DataW.TrodAll enc Tryz.prog W 0 (fun _=>true) true [22] args.toList ds p:=hA0
 obtain⟨v0,vs0,d0,ds0,p0,q0,ha0,rfl,hp0,h0,r0⟩:=trodAll_cons hA1
 obtain⟨_,rfl,_⟩:=trodAll_nil r0
 obtain⟨rfl,rfl⟩:=trodVars_none hV
 obtain⟨N,hN⟩:=VM.Pure.K8 (x) hwx
 have hC:=VM.J3 (VM.F.alm N) rfl Tryz.func4 [(.slice (.int .u64))] (by kernel_rfl) hx ((VM.F.aln N x).trans hN)
 rw[Array.toArray_toList]at hC
 refine hC.mono fun e W' ⟨he,bel⟩=> ?_
 subst he
 obtain⟨zE,hb⟩:=Mt W' bel
 exact⟨_,rfl,_,_,_,[],_,[],hW',trodAll_mk1 (shut_bool Tryz.underlying4 _),hb,rfl,bel.frame _,fun h=>by cases h⟩
theorem j0:Rows.awardBestRow.wf (OpenSpec.ofChange Rows.awardBestSpec)=true:=by kernel_rfl
theorem j3:Tryz.f4.params.all (Tryz.prog.readableRec ·)=true:=by kernel_rfl
theorem j4:namedTie Tryz.prog Rows.awardBestRow.named Rows.awardBestSpec.vars=true:=by kernel_rfl
theorem j5:(Rows.awardBestRow.stops==[])=true:=by kernel_rfl
theorem j7:(Rows.awardBestRow.knobs==[])=true:=by kernel_rfl
theorem j9:(Rows.awardBestRow.inPlace==Tryz.prog.inPlace 4)=true:=by kernel_rfl
theorem NX:(Rows.awardBestRow.unfollowed==Tryz.prog.unfollowed 4)=true:=by kernel_rfl
theorem Gr:(Rows.awardBestRow.recurses==Tryz.prog.recurses 4)=true:=by kernel_rfl
theorem j12:(Rows.awardBestRow.named==Tryz.prog.varsNamed 4)=true:=by kernel_rfl
theorem NG:(Rows.awardBestRow.maps==(Tryz.f4.params.toList++Rows.awardBestSpec.plain.varTypes Tryz.prog).any (Tryz.prog.mapsRec ·))=true:=by kernel_rfl
theorem j14:(Rows.awardBestRow.ifaces==(Tryz.f4.params.toList++Rows.awardBestSpec.plain.varTypes Tryz.prog).any (Tryz.prog.ifacesRec ·))=true:=by kernel_rfl
theorem zX:(Rows.awardBestRow.mapsOut==Tryz.prog.mapsAmong Tryz.f4.resultTypes.toList)=true:=by kernel_rfl
theorem j16:(Rows.awardBestRow.loops==(Tryz.f4.params.toList++Rows.awardBestSpec.plain.varTypes Tryz.prog).any (Tryz.prog.loopsFrom ·))=true:=by kernel_rfl
theorem j17:(Rows.awardBestRow.wideKeys==(Tryz.f4.params.toList++Rows.awardBestSpec.plain.varTypes Tryz.prog++Tryz.f4.resultTypes.toList).any (Tryz.prog.wideKeysFrom ·))=true:=by kernel_rfl
theorem j18:Rows.awardBestSpec.vars.all (Tryz.prog.varReadable ·)=true:=by kernel_rfl
theorem j19:Tryz.f4.resultTypes.all (fun t=>Tryz.prog.readableRec t&&decide (t<Tryz.prog.types.size))=true:=by kernel_rfl
theorem j20:(Rows.awardBestRow.ifacesOut==Tryz.f4.resultTypes.toList.any (Tryz.prog.ifacesRec ·))=true:=by kernel_rfl
theorem j21:(Rows.awardBestRow.loopsOut==Tryz.f4.resultTypes.toList.any (Tryz.prog.loopsFrom ·))=true:=by kernel_rfl
theorem j23:Rows.awardBestRow.shortTexts.isNone=true:=by kernel_rfl
theorem j28:(Rows.awardBestRow.kinds==(if Rows.awardBestRow.domain.isEmpty then []else Tryz.f4.params.toList.map fun t=>match Tryz.prog.underlying t with|some (.int k)=>some k|_=>none))=true:=by kernel_rfl
theorem N4:(Rows.awardBestRow.pinned==Rows.awardBestRow.pinnedBy)=true:=by kernel_rfl
theorem j30:(Rows.awardBestRow.veiled==(Tryz.f4.params.toList++Rows.awardBestSpec.plain.varTypes Tryz.prog++Tryz.f4.resultTypes.toList).any (Tryz.prog.veiledRec ·))=true:=by kernel_rfl
theorem j31:Rows.awardBestRow.veiledFits Tryz.prog Tryz.f4.params.toList (Tryz.f4.params.toList++Rows.awardBestSpec.plain.varTypes Tryz.prog++Tryz.f4.resultTypes.toList)=true:=by kernel_rfl
theorem cQ{a b:Bool}(h:a=true)(k:b=true):(a&&b)=true:=by rw[h,k];rfl
set_option maxRecDepth 100000 in
theorem closed:joinedFacts Tryz.prog 4 Tryz.f4 Rows.awardBestSpec Rows.awardBestRow=true:=by
 unfold joinedFacts
 exact cQ (cQ (cQ (cQ (cQ (cQ (cQ (cQ (cQ (cQ (cQ (cQ (cQ (cQ (cQ (cQ (cQ (cQ (cQ (cQ (cQ (cQ (cQ (cQ (cQ (cQ (cQ (cQ (cQ (cQ (cQ j0 VM.zk.laidOut) VM.zk.Vk) j3) j4) j5) VM.zk.Vl) j7) VM.zk.Vm) j9) NX) Gr) j12) NG) j14) zX) j16) j17) j18) j19) j20) j21) VM.zk.plainKeys) j23) VM.zk.heard) VM.zk.enter) VM.zk.afY) VM.zk.make) j28) N4) j30) j31
theorem Gl:Tryz.prog.funcNamed Rows.awardBestRow.func=some 4:=by kernel_rfl
theorem wrap:Tryz.f4.isWrapper Tryz.prog Rows.awardBestRow.wrapper Rows.awardBestRow.mainSum:=by
 unfold Func.isWrapper
 first|(rw[if_pos (by decide+kernel)];kernel_rfl)|(rw[if_neg (by decide+kernel)];exact⟨rfl,rfl⟩)
theorem over:Rows.awardBestRow.holds Tryz.pinned (OpenSpec.ofChange Rows.awardBestSpec):=
 OpenClaim.holds_of_wide 4 Tryz.f4 rfl rfl rfl rfl rfl rfl rfl ⟨rfl,rfl,rfl,rfl,rfl⟩ rfl rfl rfl rfl rfl Gl Tryz.func4 closed (of_decide_eq_true (by kernel_rfl)) wrap
  (fun os started H enc _=>lifted os started H enc)
theorem proved:Rows.AwardBestSaid:=over
#print axioms proved
end Go.Proofs.YtocmlaipoebfeaaGreat.awardBest
namespace Go.Proofs.YtocmlaipoebfeaaGreat
theorem awardBest_holds:Rows.AwardBestSaid:=awardBest.proved
end Go.Proofs.YtocmlaipoebfeaaGreat
