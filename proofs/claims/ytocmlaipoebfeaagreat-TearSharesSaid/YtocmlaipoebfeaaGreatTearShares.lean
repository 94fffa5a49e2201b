/- TearShares, of layer 29, holds: for every list of numbers and every number it answers true and does not panic. There are no further conditions: whatever arguments the given row allows. -/
import Derived.Test.YtocmlaipoebfeaaGreatRows
import Derived.Test.YtocmlaipoebfeaaGreatWalk0
import Derived.Test.YtocmlaipoebfeaaGreatPlain7
import Derived.Test.YtocmlaipoebfeaaGreatFacts
import Derived.WalkKit
import Derived.ProofKit
import Derived.OpenShut
import Derived.ShutString
import Derived.ChangeOld
import Derived.Below
import Derived.SizedLaws
set_option linter.all false
namespace Go.Proofs.YtocmlaipoebfeaaGreat.tearShares
open Go.ChangeShapes Go.WideShapes Go.ChangeAt Go.RowKit
theorem own:ownKnob Tryz.prog.godebug=none:=by kernel_rfl
theorem laidOut:laidOutB Tryz.prog=true:=by kernel_rfl
set_option maxRecDepth 100000 in
theorem lifted(os:Os)(started:os.Started)(H:Type)(enc:TypeId×Value→H):
  ReturnsInHanded {} Tryz.checked os 8 .any (Rows.tearSharesSpec.pre6 enc Tryz.prog Tryz.f8 Rows.tearSharesRow.domain false) (Rows.tearSharesSpec.post enc Tryz.prog Tryz.f8 false true false false):=by
 refine returnsInHanded_of_change_sized (C:=Tryz.checked) own started (by kernel_rfl) Tryz.func8
  (ChangeSpec.witness6 (enc:=enc) (C:=Tryz.checked) false ⟨#[],#[.slice none 0 0,.int .u8 0],[]⟩ 8 (by kernel_rfl) (by kernel_rfl) (by kernel_rfl) (by kernel_rfl)) ?_
 intro W base args ds gs before aij hW atk atl _
 have CH: ∀(j:Nat) t v,Tryz.f8.params[j]? =some t→args[j]? =some v→Value.okWide Tryz.prog W .any base t v:=aij
 have hW':=hW
 obtain⟨p,q,hA0,hV,rfl,hfz,tQ⟩:=hW
 have hA:DataW.TrodAll enc Tryz.prog W 0 (fun _=>true) true Tryz.f8.params.toList args.toList ds p:=hA0
 obtain⟨⟨x,hx,hwx⟩,NS⟩:=VM.NY VM.Av.laidOut [(.slice (.int .u64)),(.int .u8)] hA (by kernel_rfl) CH
 have hA1:DataW.TrodAll enc Tryz.prog W 0 (fun _=>true) true [22,5] args.toList ds p:=hA0
 obtain⟨v0,vs0,d0,ds0,p0,q0,ha0,rfl,MO,h0,r0⟩:=trodAll_cons hA1
 obtain⟨v1,Nu,d1,ds1,p1,q1,Ry,rfl,XT,h1,r1⟩:=trodAll_cons r0
 obtain⟨_,rfl,_⟩:=trodAll_nil r1
 obtain⟨rfl,rfl⟩:=trodVars_none hV
 obtain⟨N,hN⟩:=VM.Pure.Jd (x.1) (x.2) hwx
 have hC:=VM.Li (VM.F.an8 N) rfl Tryz.func8 [(.slice (.int .u64)),(.int .u8)] (by kernel_rfl) hx ((VM.F.an9 N x).trans hN)
 rw[Array.toArray_toList]at hC
 refine hC.mono fun e W' ⟨he,bel⟩=> ?_
 subst he
 obtain⟨AT,hb⟩:=NS W' bel
 exact⟨_,rfl,_,_,_,[],_,[],hW',trodAll_mk1 (shut_bool Tryz.underlying4 _),hb,rfl,bel.frame _,fun h=>by cases h⟩
theorem j0:Rows.tearSharesRow.wf (OpenSpec.ofChange Rows.tearSharesSpec)=true:=by kernel_rfl
theorem j3:Tryz.f8.params.all (Tryz.prog.readableRec ·)=true:=by kernel_rfl
theorem j4:namedTie Tryz.prog Rows.tearSharesRow.named Rows.tearSharesSpec.vars=true:=by kernel_rfl
theorem j5:(Rows.tearSharesRow.stops==[])=true:=by kernel_rfl
theorem j7:(Rows.tearSharesRow.knobs==[])=true:=by kernel_rfl
theorem j9:(Rows.tearSharesRow.inPlace==Tryz.prog.inPlace 8)=true:=by kernel_rfl
theorem Ph:(Rows.tearSharesRow.unfollowed==Tryz.prog.unfollowed 8)=true:=by kernel_rfl
theorem HJ:(Rows.tearSharesRow.recurses==Tryz.prog.recurses 8)=true:=by kernel_rfl
theorem j12:(Rows.tearSharesRow.named==Tryz.prog.varsNamed 8)=true:=by kernel_rfl
theorem HG:(Rows.tearSharesRow.maps==(Tryz.f8.params.toList++Rows.tearSharesSpec.plain.varTypes Tryz.prog).any (Tryz.prog.mapsRec ·))=true:=by kernel_rfl
theorem j14:(Rows.tearSharesRow.ifaces==(Tryz.f8.params.toList++Rows.tearSharesSpec.plain.varTypes Tryz.prog).any (Tryz.prog.ifacesRec ·))=true:=by kernel_rfl
theorem Bc:(Rows.tearSharesRow.mapsOut==Tryz.prog.mapsAmong Tryz.f8.resultTypes.toList)=true:=by kernel_rfl
theorem j16:(Rows.tearSharesRow.loops==(Tryz.f8.params.toList++Rows.tearSharesSpec.plain.varTypes Tryz.prog).any (Tryz.prog.loopsFrom ·))=true:=by kernel_rfl
theorem j17:(Rows.tearSharesRow.wideKeys==(Tryz.f8.params.toList++Rows.tearSharesSpec.plain.varTypes Tryz.prog++Tryz.f8.resultTypes.toList).any (Tryz.prog.wideKeysFrom ·))=true:=by kernel_rfl
theorem j18:Rows.tearSharesSpec.vars.all (Tryz.prog.varReadable ·)=true:=by kernel_rfl
theorem j19:Tryz.f8.resultTypes.all (fun t=>Tryz.prog.readableRec t&&decide (t<Tryz.prog.types.size))=true:=by kernel_rfl
theorem j20:(Rows.tearSharesRow.ifacesOut==Tryz.f8.resultTypes.toList.any (Tryz.prog.ifacesRec ·))=true:=by kernel_rfl
theorem MQ:(Rows.tearSharesRow.loopsOut==Tryz.f8.resultTypes.toList.any (Tryz.prog.loopsFrom ·))=true:=by kernel_rfl
theorem j23:Rows.tearSharesRow.shortTexts.isNone=true:=by kernel_rfl
theorem J5:(Rows.tearSharesRow.kinds==(if Rows.tearSharesRow.domain.isEmpty then []else Tryz.f8.params.toList.map fun t=>match Tryz.prog.underlying t with|some (.int k)=>some k|_=>none))=true:=by kernel_rfl
theorem Pp:(Rows.tearSharesRow.pinned==Rows.tearSharesRow.pinnedBy)=true:=by kernel_rfl
theorem j30:(Rows.tearSharesRow.veiled==(Tryz.f8.params.toList++Rows.tearSharesSpec.plain.varTypes Tryz.prog++Tryz.f8.resultTypes.toList).any (Tryz.prog.veiledRec ·))=true:=by kernel_rfl
theorem j31:Rows.tearSharesRow.veiledFits Tryz.prog Tryz.f8.params.toList (Tryz.f8.params.toList++Rows.tearSharesSpec.plain.varTypes Tryz.prog++Tryz.f8.resultTypes.toList)=true:=by kernel_rfl
theorem c3{a b:Bool}(h:a=true)(k:b=true):(a&&b)=true:=by rw[h,k];rfl
set_option maxRecDepth 100000 in
theorem closed:joinedFacts Tryz.prog 8 Tryz.f8 Rows.tearSharesSpec Rows.tearSharesRow=true:=by
 unfold joinedFacts
 exact c3 (c3 (c3 (c3 (c3 (c3 (c3 (c3 (c3 (c3 (c3 (c3 (c3 (c3 (c3 (c3 (c3 (c3 (c3 (c3 (c3 (c3 (c3 (c3 (c3 (c3 (c3 (c3 (c3 (c3 (c3 j0 VM.Av.laidOut) VM.Av.Xn) j3) j4) j5) VM.Av.Xo) j7) VM.Av.Xp) j9) Ph) HJ) j12) HG) j14) Bc) j16) j17) j18) j19) j20) MQ) VM.Av.plainKeys) j23) VM.Av.heard) VM.Av.enter) VM.Av.aii) VM.Av.make) J5) Pp) j30) j31
theorem Qz:Tryz.prog.funcNamed Rows.tearSharesRow.func=some 8:=by kernel_rfl
theorem wrap:Tryz.f8.isWrapper Tryz.prog Rows.tearSharesRow.wrapper Rows.tearSharesRow.mainSum:=by
 unfold Func.isWrapper
 first|(rw[auh (by decide+kernel)];kernel_rfl)|(rw[aui (by decide+kernel)];exact⟨rfl,rfl⟩)
theorem over:Rows.tearSharesRow.holds Tryz.pinned (OpenSpec.ofChange Rows.tearSharesSpec):=
 OpenClaim.holds_of_wide 8 Tryz.f8 rfl rfl rfl rfl rfl rfl rfl ⟨rfl,rfl,rfl,rfl,rfl⟩ rfl rfl rfl rfl rfl Qz Tryz.func8 closed (auw (by kernel_rfl)) wrap
  (fun os started H enc _=>lifted os started H enc)
theorem proved:Rows.TearSharesSaid:=over
#print axioms proved
end Go.Proofs.YtocmlaipoebfeaaGreat.tearShares
namespace Go.Proofs.YtocmlaipoebfeaaGreat
theorem tearShares_holds:Rows.TearSharesSaid:=tearShares.proved
end Go.Proofs.YtocmlaipoebfeaaGreat
