/- HedgeDrawn, of layer 22, holds: for every list of numbers and every number it answers true and does not panic. There are no further conditions: whatever arguments the given row allows. -/
import Derived.Test.YtocmlaipoebfeaaGreatRows
import Derived.Test.YtocmlaipoebfeaaGreatWalk0
import Derived.Test.YtocmlaipoebfeaaGreatPlain8
import Derived.Test.YtocmlaipoebfeaaGreatFacts
import Derived.WalkKit
import Derived.ProofKit
import Derived.OpenShut
import Derived.ShutString
import Derived.ChangeOld
import Derived.Below
import Derived.SizedLaws
set_option linter.all false
namespace Go.Proofs.YtocmlaipoebfeaaGreat.hedgeDrawn
open Go.ChangeShapes Go.WideShapes Go.ChangeAt Go.RowKit
theorem own:ownKnob Tryz.prog.godebug=none:=by kernel_rfl
theorem laidOut:laidOutB Tryz.prog=true:=by kernel_rfl
set_option maxRecDepth 100000 in
theorem lifted(os:Os)(started:os.Started)(H:Type)(enc:TypeId×Value→H):
  ReturnsInHanded {} Tryz.checked os 9 .any (Rows.hedgeDrawnSpec.pre6 enc Tryz.prog Tryz.f9 Rows.hedgeDrawnRow.domain false) (Rows.hedgeDrawnSpec.post enc Tryz.prog Tryz.f9 false true false false):=by
 refine returnsInHanded_of_change_sized (C:=Tryz.checked) own started (by kernel_rfl) Tryz.func9
  (ChangeSpec.witness6 (enc:=enc) (C:=Tryz.checked) false ⟨#[],#[.slice none 0 0,.int .i64 0],[]⟩ 8 (by kernel_rfl) (by kernel_rfl) (by kernel_rfl) (by kernel_rfl)) ?_
 intro W base args ds gs before amr hW axP axQ _
 have Au: ∀(j:Nat) t v,Tryz.f9.params[j]? =some t→args[j]? =some v→Value.okWide Tryz.prog W .any base t v:=amr
 have hW':=hW
 obtain⟨p,q,hA0,hV,rfl,hfz,vx⟩:=hW
 have hA:DataW.TrodAll enc Tryz.prog W 0 (fun _=>true) true Tryz.f9.params.toList args.toList ds p:=hA0
 obtain⟨⟨x,hx,hwx⟩,Rh⟩:=VM.Rn VM.Cl.laidOut [(.slice (.int .u64)),(.int .i64)] hA (by kernel_rfl) Au
 have hA1:DataW.TrodAll enc Tryz.prog W 0 (fun _=>true) true [22,2] args.toList ds p:=hA0
 obtain⟨v0,vs0,d0,ds0,p0,q0,ha0,rfl,Qk,h0,r0⟩:=trodAll_cons hA1
 obtain⟨v1,QR,d1,ds1,p1,q1,U9,rfl,hp1,h1,r1⟩:=trodAll_cons r0
 obtain⟨_,rfl,_⟩:=trodAll_nil r1
 obtain⟨rfl,rfl⟩:=trodVars_none hV
 obtain⟨N,hN⟩:=VM.Pure.Mp (x.1) (x.2) hwx
 have hC:=VM.OF (VM.F.ast N) rfl Tryz.func9 [(.slice (.int .u64)),(.int .i64)] (by kernel_rfl) hx ((VM.F.asu N x).trans hN)
 rw[Array.toArray_toList]at hC
 refine hC.mono fun e W' ⟨he,bel⟩=> ?_
 subst he
 obtain⟨CI,hb⟩:=Rh W' bel
 exact⟨_,rfl,_,_,_,[],_,[],hW',trodAll_mk1 (shut_bool Tryz.underlying4 _),hb,rfl,bel.frame _,fun h=>by cases h⟩
theorem j0:Rows.hedgeDrawnRow.wf (OpenSpec.ofChange Rows.hedgeDrawnSpec)=true:=by kernel_rfl
theorem j3:Tryz.f9.params.all (Tryz.prog.readableRec ·)=true:=by kernel_rfl
theorem j4:namedTie Tryz.prog Rows.hedgeDrawnRow.named Rows.hedgeDrawnSpec.vars=true:=by kernel_rfl
theorem j5:(Rows.hedgeDrawnRow.stops==[])=true:=by kernel_rfl
theorem j7:(Rows.hedgeDrawnRow.knobs==[])=true:=by kernel_rfl
theorem j9:(Rows.hedgeDrawnRow.inPlace==Tryz.prog.inPlace 9)=true:=by kernel_rfl
theorem SZ:(Rows.hedgeDrawnRow.unfollowed==Tryz.prog.unfollowed 9)=true:=by kernel_rfl
theorem KF:(Rows.hedgeDrawnRow.recurses==Tryz.prog.recurses 9)=true:=by kernel_rfl
theorem j12:(Rows.hedgeDrawnRow.named==Tryz.prog.varsNamed 9)=true:=by kernel_rfl
theorem Fk:(Rows.hedgeDrawnRow.maps==(Tryz.f9.params.toList++Rows.hedgeDrawnSpec.plain.varTypes Tryz.prog).any (Tryz.prog.mapsRec ·))=true:=by kernel_rfl
theorem j14:(Rows.hedgeDrawnRow.ifaces==(Tryz.f9.params.toList++Rows.hedgeDrawnSpec.plain.varTypes Tryz.prog).any (Tryz.prog.ifacesRec ·))=true:=by kernel_rfl
theorem wT:(Rows.hedgeDrawnRow.mapsOut==Tryz.prog.mapsAmong Tryz.f9.resultTypes.toList)=true:=by kernel_rfl
theorem j16:(Rows.hedgeDrawnRow.loops==(Tryz.f9.params.toList++Rows.hedgeDrawnSpec.plain.varTypes Tryz.prog).any (Tryz.prog.loopsFrom ·))=true:=by kernel_rfl
theorem j17:(Rows.hedgeDrawnRow.wideKeys==(Tryz.f9.params.toList++Rows.hedgeDrawnSpec.plain.varTypes Tryz.prog++Tryz.f9.resultTypes.toList).any (Tryz.prog.wideKeysFrom ·))=true:=by kernel_rfl
theorem j18:Rows.hedgeDrawnSpec.vars.all (Tryz.prog.varReadable ·)=true:=by kernel_rfl
theorem j19:Tryz.f9.resultTypes.all (fun t=>Tryz.prog.readableRec t&&decide (t<Tryz.prog.types.size))=true:=by kernel_rfl
theorem j20:(Rows.hedgeDrawnRow.ifacesOut==Tryz.f9.resultTypes.toList.any (Tryz.prog.ifacesRec ·))=true:=by kernel_rfl
theorem Qm:(Rows.hedgeDrawnRow.loopsOut==Tryz.f9.resultTypes.toList.any (Tryz.prog.loopsFrom ·))=true:=by kernel_rfl
theorem j23:Rows.hedgeDrawnRow.shortTexts.isNone=true:=by kernel_rfl
theorem j28:(Rows.hedgeDrawnRow.kinds==(if Rows.hedgeDrawnRow.domain.isEmpty then []else Tryz.f9.params.toList.map fun t=>match Tryz.prog.underlying t with|some (.int k)=>some k|_=>none))=true:=by kernel_rfl
theorem S7:(Rows.hedgeDrawnRow.pinned==Rows.hedgeDrawnRow.pinnedBy)=true:=by kernel_rfl
theorem j30:(Rows.hedgeDrawnRow.veiled==(Tryz.f9.params.toList++Rows.hedgeDrawnSpec.plain.varTypes Tryz.prog++Tryz.f9.resultTypes.toList).any (Tryz.prog.veiledRec ·))=true:=by kernel_rfl
theorem j31:Rows.hedgeDrawnRow.veiledFits Tryz.prog Tryz.f9.params.toList (Tryz.f9.params.toList++Rows.hedgeDrawnSpec.plain.varTypes Tryz.prog++Tryz.f9.resultTypes.toList)=true:=by kernel_rfl
theorem dj{a b:Bool}(h:a=true)(k:b=true):(a&&b)=true:=by rw[h,k];rfl
set_option maxRecDepth 100000 in
theorem closed:joinedFacts Tryz.prog 9 Tryz.f9 Rows.hedgeDrawnSpec Rows.hedgeDrawnRow=true:=by
 unfold joinedFacts
 exact dj (dj (dj (dj (dj (dj (dj (dj (dj (dj (dj (dj (dj (dj (dj (dj (dj (dj (dj (dj (dj (dj (dj (dj (dj (dj (dj (dj (dj (dj (dj j0 VM.Cl.laidOut) VM.Cl.aaX) j3) j4) j5) VM.Cl.aaY) j7) VM.Cl.aaZ) j9) SZ) KF) j12) Fk) j14) wT) j16) j17) j18) j19) j20) Qm) VM.Cl.plainKeys) j23) VM.Cl.heard) VM.Cl.enter) VM.Cl.amq) VM.Cl.make) j28) S7) j30) j31
theorem at':Tryz.prog.funcNamed Rows.hedgeDrawnRow.func=some 9:=by kernel_rfl
theorem wrap:Tryz.f9.isWrapper Tryz.prog Rows.hedgeDrawnRow.wrapper Rows.hedgeDrawnRow.mainSum:=by
 unfold Func.isWrapper
 first|(rw[ayF (by decide+kernel)];kernel_rfl)|(rw[ayE (by decide+kernel)];exact⟨rfl,rfl⟩)
theorem over:Rows.hedgeDrawnRow.holds Tryz.pinned (OpenSpec.ofChange Rows.hedgeDrawnSpec):=
 OpenClaim.holds_of_wide 9 Tryz.f9 rfl rfl rfl rfl rfl rfl rfl ⟨rfl,rfl,rfl,rfl,rfl⟩ rfl rfl rfl rfl rfl at' Tryz.func9 closed (ayV (by kernel_rfl)) wrap
  (fun os started H enc _=>lifted os started H enc)
theorem proved:Rows.HedgeDrawnSaid:=over
#print axioms proved
end Go.Proofs.YtocmlaipoebfeaaGreat.hedgeDrawn
namespace Go.Proofs.YtocmlaipoebfeaaGreat
theorem hedgeDrawn_holds:Rows.HedgeDrawnSaid:=hedgeDrawn.proved
end Go.Proofs.YtocmlaipoebfeaaGreat
