/- This shows of any book whether it is right, and what trades, prices, dropping make of it, or why nothing. -/
import Derived.Test.YtfdcmiodcijmmaaGreatRows
import Derived.Test.YtfdcmiodcijmmaaGreatWalk0
import Derived.Test.YtfdcmiodcijmmaaGreatPlain5
import Derived.Test.YtfdcmiodcijmmaaGreatFacts
import Derived.WalkKit
import Derived.ProofKit
import Derived.OpenShut
import Derived.ShutString
import Derived.ChangeOld
import Derived.Below
import Derived.SizedLaws
set_option linter.all false
namespace Go.Proofs.YtfdcmiodcijmmaaGreat.bookAll
open Go.ChangeShapes Go.WideShapes Go.ChangeAt Go.RowKit
theorem own:ownKnob Tryz.prog.godebug=none:=κ
theorem laidOut:laidOutB Tryz.prog=true:=κ
set_option maxRecDepth 100000 in
theorem lifted(os:Os)(started:os.Started)(H:Type)(enc:TypeId×Value→H):
  ReturnsInHanded {} Tryz.checked os 7 .any (Rows.bookAllSpec.pre6 enc Tryz.prog Tryz.f7 Rows.bookAllRow.domain false) (Rows.bookAllSpec.post enc Tryz.prog Tryz.f7 false true false false):=by
 refine returnsInHanded_of_change_sized (C:=Tryz.checked) own started κ Tryz.func7
  (ChangeSpec.witness6 (enc:=enc) (C:=Tryz.checked) false ⟨#[],#[.agg #[.slice none 0 0,.int .i64 0,.int .i64 0,.int .i64 0,.int .i64 0,.int .i64 0,.int .i64 0],.agg #[.slice none 0 0,.slice none 0 0,.slice none 0 0,.slice none 0 0,.slice none 0 0,.slice none 0 0],.slice none 0 0,.int .i64 0,.int .i64 0,.int .i64 0,.int .i64 0],[]⟩ 8 κ κ κ κ) ?_
 intro W base args ds gs before ZV hW ahS ahT _
 have yv: ∀(j:Nat) t v,Tryz.f7.params[j]? =some t→args[j]? =some v→Value.okWide Tryz.prog W .any base t v:=ZV
 have hW':=hW
 obtain⟨p,q,hA0,hV,rfl,hfz,pJ⟩:=hW
 have hA:DataW.TrodAll enc Tryz.prog W 0 (λ_=>true) true Tryz.f7.params.toList args.toList ds p:=hA0
 obtain⟨⟨x,hx,WU⟩,Ll⟩:=VM.Lr VM.zM.laidOut [(.pair (.slice (.pair (.int .i64) (.pair (.int .i64) (.pair (.int .i64) (.pair (.int .i64) .unit))))) (.pair (.int .i64) (.pair (.int .i64) (.pair (.int .i64) (.pair (.int .i64) (.pair (.int .i64) (.pair (.int .i64) .unit))))))),(.pair (.slice (.pair (.int .i64) (.pair (.int .i64) .unit))) (.pair (.slice (.pair (.int .i64) (.pair (.int .i64) (.pair (.int .i64) (.pair (.int .i64) .unit))))) (.pair (.slice (.pair (.int .i64) (.pair (.int .i64) (.pair (.int .i64) .unit)))) (.pair (.slice (.pair (.int .i64) (.pair (.int .i64) (.pair (.int .i64) .unit)))) (.pair (.slice (.int .i64)) (.pair (.slice (.pair (.int .i64) (.pair (.int .i64) (.pair (.int .i64) (.pair (.int .i64) (.pair (.int .i64) (.pair (.int .i64) .unit))))))) .unit)))))),(.slice (.pair (.int .i64) (.pair (.int .i64) (.pair (.int .i64) (.pair (.int .i64) (.pair (.int .i64) .unit)))))),(.int .i64),(.int .i64),(.int .i64),(.int .i64)] hA κ yv
 have hA1:DataW.TrodAll enc Tryz.prog W 0 (λ_=>true) true [24,32,75,3,3,3,2] args.toList ds p:=hA0
 obtain⟨v0,vs0,d0,ds0,p0,q0,ha0,rfl,Vl,h0,r0⟩:=trodAll_cons hA1
 obtain⟨v1,KW,d1,ds1,p1,q1,Vy,rfl,hp1,h1,r1⟩:=trodAll_cons r0
 obtain⟨v2,vs2,d2,ds2,p2,q2,ha2,rfl,hp2,h2,r2⟩:=trodAll_cons r1
 obtain⟨v3,vs3,d3,ds3,p3,q3,ha3,rfl,hp3,h3,r3⟩:=trodAll_cons r2
 obtain⟨v4,vs4,d4,ds4,p4,q4,ha4,rfl,hp4,h4,r4⟩:=trodAll_cons r3
 obtain⟨v5,vs5,d5,ds5,p5,q5,ha5,rfl,hp5,h5,r5⟩:=trodAll_cons r4
 obtain⟨v6,vs6,d6,ds6,p6,q6,ha6,rfl,hp6,h6,r6⟩:=trodAll_cons r5
 obtain⟨_,rfl,_⟩:=trodAll_nil r6
 obtain⟨rfl,rfl⟩:=trodVars_none hV
 obtain⟨N,hN⟩:=VM.Pure.Pk (x.1) (x.2.1) (x.2.2.1) (x.2.2.2.1) (x.2.2.2.2.1) (x.2.2.2.2.2.1) (x.2.2.2.2.2.2) WU
 have hC:=VM.Ji (VM.F.adL N) rfl Tryz.func7 [(.pair (.slice (.pair (.int .i64) (.pair (.int .i64) (.pair (.int .i64) (.pair (.int .i64) .unit))))) (.pair (.int .i64) (.pair (.int .i64) (.pair (.int .i64) (.pair (.int .i64) (.pair (.int .i64) (.pair (.int .i64) .unit))))))),(.pair (.slice (.pair (.int .i64) (.pair (.int .i64) .unit))) (.pair (.slice (.pair (.int .i64) (.pair (.int .i64) (.pair (.int .i64) (.pair (.int .i64) .unit))))) (.pair (.slice (.pair (.int .i64) (.pair (.int .i64) (.pair (.int .i64) .unit)))) (.pair (.slice (.pair (.int .i64) (.pair (.int .i64) (.pair (.int .i64) .unit)))) (.pair (.slice (.int .i64)) (.pair (.slice (.pair (.int .i64) (.pair (.int .i64) (.pair (.int .i64) (.pair (.int .i64) (.pair (.int .i64) (.pair (.int .i64) .unit))))))) .unit)))))),(.slice (.pair (.int .i64) (.pair (.int .i64) (.pair (.int .i64) (.pair (.int .i64) (.pair (.int .i64) .unit)))))),(.int .i64),(.int .i64),(.int .i64),(.int .i64)] κ hx ((VM.F.adM N x).trans hN)
 rw[Array.toArray_toList]at hC
 refine hC.mono λe W' ⟨he,bel⟩=> ?_
 subst he
 obtain⟨zU,hb⟩:=Ll W' bel
 exact⟨_,rfl,_,_,_,[],_,[],hW',trodAll_mk1 (shut_bool Tryz.underlying4 _),hb,rfl,bel.frame _,λh=>by cases h⟩
theorem j0:Rows.bookAllRow.wf (OpenSpec.ofChange Rows.bookAllSpec)=true:=κ
theorem j3:Tryz.f7.params.all (Tryz.prog.readableRec ·)=true:=κ
theorem j4:namedTie Tryz.prog Rows.bookAllRow.named Rows.bookAllSpec.vars=true:=κ
theorem j5:(Rows.bookAllRow.stops==[])=true:=κ
theorem j7:(Rows.bookAllRow.knobs==[])=true:=κ
theorem j9:(Rows.bookAllRow.inPlace==Tryz.prog.inPlace 7)=true:=κ
theorem j10:(Rows.bookAllRow.unfollowed==Tryz.prog.unfollowed 7)=true:=κ
theorem j11:(Rows.bookAllRow.recurses==Tryz.prog.recurses 7)=true:=κ
theorem j12:(Rows.bookAllRow.named==Tryz.prog.varsNamed 7)=true:=κ
theorem Nn:(Rows.bookAllRow.maps==(Tryz.f7.params.toList++Rows.bookAllSpec.plain.varTypes Tryz.prog).any (Tryz.prog.mapsRec ·))=true:=κ
theorem j14:(Rows.bookAllRow.ifaces==(Tryz.f7.params.toList++Rows.bookAllSpec.plain.varTypes Tryz.prog).any (Tryz.prog.ifacesRec ·))=true:=κ
theorem j15:(Rows.bookAllRow.mapsOut==Tryz.prog.mapsAmong Tryz.f7.resultTypes.toList)=true:=κ
theorem j16:(Rows.bookAllRow.loops==(Tryz.f7.params.toList++Rows.bookAllSpec.plain.varTypes Tryz.prog).any (Tryz.prog.loopsFrom ·))=true:=κ
theorem j17:(Rows.bookAllRow.wideKeys==(Tryz.f7.params.toList++Rows.bookAllSpec.plain.varTypes Tryz.prog++Tryz.f7.resultTypes.toList).any (Tryz.prog.wideKeysFrom ·))=true:=κ
theorem Xj:Rows.bookAllSpec.vars.all (Tryz.prog.varReadable ·)=true:=κ
theorem j19:Tryz.f7.resultTypes.all (λt=>Tryz.prog.readableRec t&&decide (t<Tryz.prog.types.size))=true:=κ
theorem j20:(Rows.bookAllRow.ifacesOut==Tryz.f7.resultTypes.toList.any (Tryz.prog.ifacesRec ·))=true:=κ
theorem Xo:(Rows.bookAllRow.loopsOut==Tryz.f7.resultTypes.toList.any (Tryz.prog.loopsFrom ·))=true:=κ
theorem j23:Rows.bookAllRow.shortTexts.isNone=true:=κ
theorem j28:(Rows.bookAllRow.kinds==(if Rows.bookAllRow.domain.isEmpty then []else Tryz.f7.params.toList.map λt=>match Tryz.prog.underlying t with|some (.int k)=>some k|_=>none))=true:=κ
theorem j29:(Rows.bookAllRow.pinned==Rows.bookAllRow.pinnedBy)=true:=κ
theorem j30:(Rows.bookAllRow.veiled==(Tryz.f7.params.toList++Rows.bookAllSpec.plain.varTypes Tryz.prog++Tryz.f7.resultTypes.toList).any (Tryz.prog.veiledRec ·))=true:=κ
theorem j31:Rows.bookAllRow.veiledFits Tryz.prog Tryz.f7.params.toList (Tryz.f7.params.toList++Rows.bookAllSpec.plain.varTypes Tryz.prog++Tryz.f7.resultTypes.toList)=true:=κ
theorem cX{a b:Bool}(h:a=true)(k:b=true):(a&&b)=true:=by rw[h,k];rfl
set_option maxRecDepth 100000 in
theorem closed:joinedFacts Tryz.prog 7 Tryz.f7 Rows.bookAllSpec Rows.bookAllRow=true:=by
 unfold joinedFacts
 exact cX (cX (cX (cX (cX (cX (cX (cX (cX (cX (cX (cX (cX (cX (cX (cX (cX (cX (cX (cX (cX (cX (cX (cX (cX (cX (cX (cX (cX (cX (cX j0 VM.zM.laidOut) VM.zM.QS) j3) j4) j5) VM.zM.QT) j7) VM.zM.QU) j9) j10) j11) j12) Nn) j14) j15) j16) j17) Xj) j19) j20) Xo) VM.zM.plainKeys) j23) VM.zM.heard) VM.zM.enter) VM.zM.ZU) VM.zM.make) j28) j29) j30) j31
theorem SM:Tryz.prog.funcNamed Rows.bookAllRow.func=some 7:=κ
theorem wrap:Tryz.f7.isWrapper Tryz.prog Rows.bookAllRow.wrapper Rows.bookAllRow.mainSum:=by
 unfold Func.isWrapper
 first|(rw[ae (by decide+kernel)];kernel_rfl)|(rw[af (by decide+kernel)];exact⟨rfl,rfl⟩)
theorem over:Rows.bookAllRow.holds Tryz.pinned (OpenSpec.ofChange Rows.bookAllSpec):=
 OpenClaim.holds_of_wide 7 Tryz.f7 rfl rfl rfl rfl rfl rfl rfl ⟨rfl,rfl,rfl,rfl,rfl⟩ rfl rfl rfl rfl rfl SM Tryz.func7 closed (bH κ) wrap
  (λos started H enc _=>lifted os started H enc)
theorem proved:Rows.BookAllSaid:=over
#print axioms proved
end Go.Proofs.YtfdcmiodcijmmaaGreat.bookAll
namespace Go.Proofs.YtfdcmiodcijmmaaGreat
theorem bookAll_holds:Rows.BookAllSaid:=bookAll.proved
end Go.Proofs.YtfdcmiodcijmmaaGreat
