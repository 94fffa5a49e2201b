/- This shows into how many parts any gross is cut. -/
import Derived.Test.YthnjnpjmbabcaaaRows
import Derived.Test.YthnjnpjmbabcaaaWalk0
import Derived.Test.YthnjnpjmbabcaaaPlain3
import Derived.Test.YthnjnpjmbabcaaaFacts
import Derived.WalkKit
import Derived.ProofKit
import Derived.OpenShut
import Derived.ShutString
import Derived.ChangeOld
import Derived.Below
import Derived.SizedLaws
set_option linter.all false
namespace Go.Proofs.Ythnjnpjmbabcaaa.lotSlices
open Go.ChangeShapes Go.WideShapes Go.ChangeAt Go.RowKit
theorem own:ownKnob Try.prog.godebug=none:=κ
theorem laidOut:laidOutB Try.prog=true:=κ
set_option maxRecDepth 100000 in
theorem lifted(os:Os)(started:os.Started)(H:Type)(enc:TypeId×Value→H):
  ReturnsInHanded {} Try.checked os 3 .any (Rows.lotSlicesSpec.pre6 enc Try.prog Try.f3 Rows.lotSlicesRow.domain false) (Rows.lotSlicesSpec.post enc Try.prog Try.f3 false true false false):=by
 refine returnsInHanded_of_change_sized (C:=Try.checked) own started κ Try.func3
  (ChangeSpec.witness6 (enc:=enc) (C:=Try.checked) false ⟨#[],#[.agg #[.int .i64 0,.int .u64 0],.int .i64 0,.int .u16 0,.int .u8 0],[]⟩ 8 κ κ κ κ) ?_
 intro W base args ds gs before PT hW Yh Yi _
 have uc: ∀(j:Nat) t v,Try.f3.params[j]? =some t→args[j]? =some v→Value.okWide Try.prog W .any base t v:=PT
 have Yj:=hW
 obtain⟨p,q,UQ,hV,rfl,S1,mH⟩:=hW
 have hA:DataW.TrodAll enc Try.prog W 0 (λ_=>true) true Try.f3.params.toList args.toList ds p:=UQ
 obtain⟨⟨x,hx,NV⟩,EZ⟩:=VM.E5 VM.vp.laidOut [(.pair (.int .i64) (.pair (.int .u64) .unit)),(.int .i64),(.int .u16),(.int .u8)] hA κ uc
 have Yk:DataW.TrodAll enc Try.prog W 0 (λ_=>true) true [24,2,25,5] args.toList ds p:=UQ
 obtain⟨v0,Y6,d0,Y7,p0,q0,QN,rfl,vJ,h0,r0⟩:=trodAll_cons Yk
 obtain⟨v1,Es,d1,Y8,p1,q1,Qc,rfl,TQ,h1,r1⟩:=trodAll_cons r0
 obtain⟨v2,RK,d2,Y9,p2,q2,Za,rfl,Zb,h2,r2⟩:=trodAll_cons r1
 obtain⟨v3,V2,d3,Zc,p3,q3,Zd,rfl,Ze,h3,r3⟩:=trodAll_cons r2
 obtain⟨_,rfl,_⟩:=trodAll_nil r3
 obtain⟨rfl,rfl⟩:=trodVars_none hV
 obtain⟨N,hN⟩:=VM.Pure.Dz (x.1) (x.2.1) (x.2.2.1) (x.2.2.2) NV
 have hC:=VM.CW (VM.F.SP N) rfl Try.func3 [(.pair (.int .i64) (.pair (.int .u64) .unit)),(.int .i64),(.int .u16),(.int .u8)] κ hx ((VM.F.SQ N x).trans hN)
 rw[Array.toArray_toList]at hC
 refine hC.mono λe W' ⟨he,UR⟩=> ?_
 subst he
 obtain⟨sR,hb⟩:=EZ W' UR
 exact⟨_,rfl,_,_,_,[],_,[],Yj,trodAll_mk1 (shut_bool Try.underlying4 _),hb,rfl,UR.frame _,λh=>by cases h⟩
theorem j0:Rows.lotSlicesRow.wf (OpenSpec.ofChange Rows.lotSlicesSpec)=true:=κ
theorem j3:Try.f3.params.all (Try.prog.readableRec ·)=true:=κ
theorem j4:namedTie Try.prog Rows.lotSlicesRow.named Rows.lotSlicesSpec.vars=true:=κ
theorem j5:(Rows.lotSlicesRow.stops==[])=true:=κ
theorem j7:(Rows.lotSlicesRow.knobs==[])=true:=κ
theorem j9:(Rows.lotSlicesRow.inPlace==Try.prog.inPlace 3)=true:=κ
theorem Yl:(Rows.lotSlicesRow.unfollowed==Try.prog.unfollowed 3)=true:=κ
theorem Ym:(Rows.lotSlicesRow.recurses==Try.prog.recurses 3)=true:=κ
theorem Yn:(Rows.lotSlicesRow.named==Try.prog.varsNamed 3)=true:=κ
theorem MN:(Rows.lotSlicesRow.maps==(Try.f3.params.toList++Rows.lotSlicesSpec.plain.varTypes Try.prog).any (Try.prog.mapsRec ·))=true:=κ
theorem Yo:(Rows.lotSlicesRow.ifaces==(Try.f3.params.toList++Rows.lotSlicesSpec.plain.varTypes Try.prog).any (Try.prog.ifacesRec ·))=true:=κ
theorem Yp:(Rows.lotSlicesRow.mapsOut==Try.prog.mapsAmong Try.f3.resultTypes.toList)=true:=κ
theorem Yq:(Rows.lotSlicesRow.loops==(Try.f3.params.toList++Rows.lotSlicesSpec.plain.varTypes Try.prog).any (Try.prog.loopsFrom ·))=true:=κ
theorem Yr:(Rows.lotSlicesRow.wideKeys==(Try.f3.params.toList++Rows.lotSlicesSpec.plain.varTypes Try.prog++Try.f3.resultTypes.toList).any (Try.prog.wideKeysFrom ·))=true:=κ
theorem Ys:Rows.lotSlicesSpec.vars.all (Try.prog.varReadable ·)=true:=κ
theorem Yt:Try.f3.resultTypes.all (λt=>Try.prog.readableRec t&&decide (t<Try.prog.types.size))=true:=κ
theorem Yu:(Rows.lotSlicesRow.ifacesOut==Try.f3.resultTypes.toList.any (Try.prog.ifacesRec ·))=true:=κ
theorem I8:(Rows.lotSlicesRow.loopsOut==Try.f3.resultTypes.toList.any (Try.prog.loopsFrom ·))=true:=κ
theorem Yv:Rows.lotSlicesRow.shortTexts.isNone=true:=κ
theorem I9:(Rows.lotSlicesRow.kinds==(if Rows.lotSlicesRow.domain.isEmpty then []else Try.f3.params.toList.map λt=>match Try.prog.underlying t with|some (.int k)=>some k|_=>none))=true:=κ
theorem MR:(Rows.lotSlicesRow.pinned==Rows.lotSlicesRow.pinnedBy)=true:=κ
theorem Yw:(Rows.lotSlicesRow.veiled==(Try.f3.params.toList++Rows.lotSlicesSpec.plain.varTypes Try.prog++Try.f3.resultTypes.toList).any (Try.prog.veiledRec ·))=true:=κ
theorem Yx:Rows.lotSlicesRow.veiledFits Try.prog Try.f3.params.toList (Try.f3.params.toList++Rows.lotSlicesSpec.plain.varTypes Try.prog++Try.f3.resultTypes.toList)=true:=κ
theorem bX{a b:Bool}(h:a=true)(k:b=true):(a&&b)=true:=by rw[h,k];rfl
set_option maxRecDepth 100000 in
theorem closed:joinedFacts Try.prog 3 Try.f3 Rows.lotSlicesSpec Rows.lotSlicesRow=true:=by
 unfold joinedFacts
 exact bX (bX (bX (bX (bX (bX (bX (bX (bX (bX (bX (bX (bX (bX (bX (bX (bX (bX (bX (bX (bX (bX (bX (bX (bX (bX (bX (bX (bX (bX (bX j0 VM.vp.laidOut) VM.vp.IC) j3) j4) j5) VM.vp.ID) j7) VM.vp.IE) j9) Yl) Ym) Yn) MN) Yo) Yp) Yq) Yr) Ys) Yt) Yu) I8) VM.vp.plainKeys) Yv) VM.vp.heard) VM.vp.enter) VM.vp.PS) VM.vp.make) I9) MR) Yw) Yx
theorem CY:Try.prog.funcNamed Rows.lotSlicesRow.func=some 3:=κ
theorem wrap:Try.f3.isWrapper Try.prog Rows.lotSlicesRow.wrapper Rows.lotSlicesRow.mainSum:=by
 unfold Func.isWrapper
 first|(rw[af (by decide+kernel)];kernel_rfl)|(rw[ag (by decide+kernel)];exact⟨rfl,rfl⟩)
theorem over:Rows.lotSlicesRow.holds Try.pinned (OpenSpec.ofChange Rows.lotSlicesSpec):=
 OpenClaim.holds_of_wide 3 Try.f3 rfl rfl rfl rfl rfl rfl rfl ⟨rfl,rfl,rfl,rfl,rfl⟩ rfl rfl rfl rfl rfl CY Try.func3 closed (bs κ) wrap
  (λos started H enc _=>lifted os started H enc)
theorem proved:Rows.LotSlicesSaid:=over
#print axioms proved
end Go.Proofs.Ythnjnpjmbabcaaa.lotSlices
namespace Go.Proofs.Ythnjnpjmbabcaaa
theorem lotSlices_holds:Rows.LotSlicesSaid:=lotSlices.proved
end Go.Proofs.Ythnjnpjmbabcaaa
