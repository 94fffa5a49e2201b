/- A part of the proof of HedgeDrawn of layer 22: the functions as equations between values, printed by a program. -/
import Derived.Test.YtocmlaipoebfeaaGreatVm0
set_option linter.all false
namespace VM.F
open Go VM
set_option maxRecDepth 100000
noncomputable section
abbrev rn:Ty:=(.pair .str .unit)
abbrev iB:Ty:=(.pair .str (.pair (.int .u64) .unit))
abbrev gG:Ty:=(.pair (.int .i64) (.pair (.int .i64) .unit))
abbrev cm:Ty:=(.pair (.int .i64) (.pair (.int .u64) .unit))
abbrev b8:Ty:=(.pair .bool (.pair (.slice (.int .u64)) .unit))
abbrev dG:Ty:=(.pair (.slice (.int .u64)) (.pair (.int .i64) .unit))
abbrev fH:Ty:=(.pair (.int .i64) gG)
abbrev rp:Ty:=(.pair (.int .i64) (.pair (.int .i64) (.pair .bool (.pair (.int .u8) .unit))))
abbrev c9:Ty:=(.pair (.int .i64) fH)
abbrev rq:Ty:=(.pair (.int .i64) (.pair (.int .i64) (.pair cm .unit)))
abbrev oE:Ty:=(.pair (.int .i64) c9)
abbrev oz:Ty:=(.pair (.int .i64) (.pair (.int .i64) (.pair b8 .unit)))
abbrev jn:Ty:=(.pair (.int .i64) oE)
abbrev nJ:Ty:=(.pair (.int .i64) (.pair (.int .i64) jn))
abbrev gF:Ty:=(.pair (.int .i64) (.pair (.slice gG) c9))
abbrev ep:Ty:=(.pair (.int .i64) (.pair (.int .i64) (.pair (.slice oE) (.pair (.int .i64) .unit))))
abbrev aq:Ty:=(.pair (.slice c9) jn)
abbrev aC:Ty:=(.pair (.slice gG) (.pair (.slice c9) (.pair (.slice fH) (.pair (.slice fH) (.pair (.slice (.int .i64)) (.pair (.slice jn) .unit))))))
abbrev mD:Ty:=(.pair (.int .i64) (.pair (.int .i64) (.pair (.int .i64) (.pair (.int .i64) (.pair (.slice c9) (.pair (.slice gF) (.pair (.slice c9) (.pair (.slice (.int .i64)) (.pair (.slice gG) (.pair (.slice gG) .unit))))))))))
abbrev cR:Ty:=(.pair (.int .i64) (.pair (.int .i64) (.pair aC (.pair mD (.pair ep .unit)))))
abbrev Ug:=Ty.den rn
abbrev Uh:=List (Ty.den rn)
abbrev I1:=Ty.den iB
abbrev I2:=List (Ty.den iB)
abbrev Lk:=Ty.den gG
abbrev av:=List (Ty.den gG)
abbrev aT:=Ty.den cm
abbrev c3:=List (Ty.den cm)
abbrev ax:=Ty.den b8
abbrev iw:=List (Ty.den b8)
abbrev aO:=Ty.den dG
abbrev aoO:=List (Ty.den dG)
abbrev bY:=Ty.den fH
abbrev aj:=List (Ty.den fH)
abbrev Ui:=Ty.den rp
abbrev Uj:=List (Ty.den rp)
abbrev bp:=Ty.den c9
abbrev aD:=List (Ty.den c9)
abbrev pg:=Ty.den rq
abbrev cI:=List (Ty.den rq)
abbrev gk:=Ty.den oE
abbrev aZ:=List (Ty.den oE)
abbrev adk:=Ty.den oz
abbrev bx:=List (Ty.den oz)
abbrev cr:=Ty.den jn
abbrev aU:=List (Ty.den jn)
abbrev fU:=Ty.den nJ
abbrev gn:=List (Ty.den nJ)
abbrev gB:=Ty.den gF
abbrev ba:=List (Ty.den gF)
abbrev dd:=Ty.den ep
abbrev ajb:=List (Ty.den ep)
abbrev aa:=Ty.den aq
abbrev ajc:=List (Ty.den aq)
abbrev ag:=Ty.den aC
abbrev aoP:=List (Ty.den aC)
abbrev ahi:=Ty.den mD
abbrev ahj:=List (Ty.den mD)
abbrev aR:=Ty.den cR
abbrev am3:=List (Ty.den cR)
def F99(N:Nat):Option (aa×ag):=
 some (([((0:Int),((100:Int),((1:Int),((0:Int),())))),((0:Int),((7:Int),bL))],((0:Int),((0:Int),((0:Int),((0:Int),((1:Int),((10:Int),()))))))),([((1:Int),((1:Int),()))],([((1:Int),((1:Int),((1:Int),((50:Int),()))))],([((1:Int),((0:Int),((-90:Int),()))),((5:Int),((1:Int),((90:Int),())))],([((0:Int),((0:Int),((5:Int),()))),((0:Int),((1:Int),((20:Int),()))),((1:Int),((0:Int),((-5:Int),()))),((1:Int),((1:Int),((-20:Int),())))],([(100:Int),(7:Int)],(cK,())))))))
def zd(N:Nat)(a0:Int)(a1:Int)(a2:Int):Option (Bool):=
 cond (bX a1 a0) (some (bX a0 a2)) (some false)
abbrev wQ.aY:=aa→aD→Int→Int→Option (Bool)
def wQ.cD(N:Nat)(bA:wQ.aY)(x1:aa)(aK:aD)(aP:Int)(bn:Int):Option (Bool):=
 cond (aG bn aP) (cond (aI bn (List.length aK)) ((zd N ((List.getD aK bn.toNat aJ).1) (0:Int) (3:Int)).bind fun r3=>cond (!r3) (some false) ((zd N (((List.getD aK bn.toNat aJ).2).1) (1:Int) (1000000000000:Int)).bind fun r4=>cond (!r4) (some false) ((zd N ((((List.getD aK bn.toNat aJ).2).2).1) (0:Int) (1000000000:Int)).bind fun r5=>cond (!r5) (some false) ((zd N (((((List.getD aK bn.toNat aJ).2).2).2).1) (0:Int) (1000000000:Int)).bind fun r6=>cond (!r6) (some false) (bA x1 aK aP (W .i64 (bn+1))))))) (none)) (cond (bX 0 x1.2.1) ((zd N x1.2.2.1 (0:Int) (4:Int)).bind fun r8=>cond (r8) ((zd N x1.2.2.2.1 (0:Int) (1000000:Int)).bind fun r9=>cond (r9) ((zd N x1.2.2.2.2.1 (0:Int) (1000000:Int)).bind fun gA=>cond (gA) ((zd N x1.2.2.2.2.2.1 (1:Int) (4611686018427387904:Int)).bind fun jV=>cond (jV) (some (bX 0 x1.2.2.2.2.2.2.1)) (some false)) (some false)) (some false)) (some false)) (some false))
def wQ.l4(N:Nat):Nat→wQ.aY
 |0,_,_,_,_=>none
 |n+1,x1,aK,aP,bn=>wQ.cD N (wQ.l4 N n) x1 aK aP bn
def wQ.b(N:Nat)(c6:wQ.aY)(a0:aa):Option (Bool):=
 (zd N (List.length a0.1:Int) (1:Int) (6:Int)).bind fun r1=>cond (!r1) (some false) (c6 a0 a0.1 (List.length a0.1:Int) (0:Int))
def wQ(N:Nat)(a0:aa):Option (Bool):=wQ.b N (wQ.l4 N N) a0
abbrev ma.bT:=av→av→Int→Int→Option (Bool)
def ma.dA(N:Nat)(cS:ma.bT)(x0:av)(x5:av)(x6:Int)(x7:Int):Option (Bool):=
 cond (aG x7 x6) (cond (aI x7 (List.length x5)) (cond (aG ((List.getD x5 x7.toNat bL).1) (1:Int)) (some false) (cond (aG 12 ((List.getD x5 x7.toNat bL).1)) (some false) (cond (aG (((List.getD x5 x7.toNat bL).2).1) (1:Int)) (some false) (cond (aG 4 (((List.getD x5 x7.toNat bL).2).1)) (some false) (cond (aG 0 x7) (let v2:Int:=W .i64 (x7-1);cond (aI v2 (List.length x0)) (cond (bX ((List.getD x5 x7.toNat bL).1) ((List.getD x0 v2.toNat bL).1)) (some false) (cS x0 x5 x6 (W .i64 (x7+1)))) (none)) (cS x0 x5 x6 (W .i64 (x7+1)))))))) (none)) (some true)
def ma.l2(N:Nat):Nat→ma.bT
 |0,_,_,_,_=>none
 |n+1,x0,x5,x6,x7=>ma.dA N (ma.l2 N n) x0 x5 x6 x7
def ma.b(N:Nat)(eI:ma.bT)(a0:av):Option (Bool):=
 eI a0 a0 (List.length a0:Int) (0:Int)
def ma(N:Nat)(a0:av):Option (Bool):=ma.b N (ma.l2 N N) a0
abbrev jN.c0:=aD→(List (Bool))→aD→Int→Int→Option (Bool)
def jN.jU(N:Nat)(cG:jN.c0)(x0:aD)(x3:List (Bool))(x6:aD)(x7:Int)(x8:Int):Option (Bool):=
 cond (aG x8 x7) (cond (aI x8 (List.length x6)) (cond (aG ((List.getD x6 x8.toNat aJ).1) (1:Int)) (some false) (cond (aG 24 ((List.getD x6 x8.toNat aJ).1)) (some false) (cond (aG (((List.getD x6 x8.toNat aJ).2).1) (1:Int)) (some false) (cond (aG 12 (((List.getD x6 x8.toNat aJ).2).1)) (some false) (cond (!aA ((((List.getD x6 x8.toNat aJ).2).2).1) (1:Int)) (cond (!aA ((((List.getD x6 x8.toNat aJ).2).2).1) (2:Int)) (some false) (cond (aG (((((List.getD x6 x8.toNat aJ).2).2).2).1) (0:Int)) (some false) (cond (aG 1000000000000 (((((List.getD x6 x8.toNat aJ).2).2).2).1)) (some false) (cond (aG 0 x8) (let v2:Int:=W .i64 (x8-1);cond (aI v2 (List.length x0)) (cond (bX ((List.getD x6 x8.toNat aJ).1) ((List.getD x0 v2.toNat aJ).1)) (some false) (cond (aA ((((List.getD x6 x8.toNat aJ).2).2).1) (1:Int)) (cond (aI (((List.getD x6 x8.toNat aJ).2).1) 13) (cond (List.getD x3 (((List.getD x6 x8.toNat aJ).2).1).toNat false) (some false) (cond (aI (((List.getD x6 x8.toNat aJ).2).1) 13) (cG x0 (List.set x3 (((List.getD x6 x8.toNat aJ).2).1).toNat true) x6 x7 (W .i64 (x8+1))) (none))) (none)) (cG x0 x3 x6 x7 (W .i64 (x8+1))))) (none)) (cond (aA ((((List.getD x6 x8.toNat aJ).2).2).1) (1:Int)) (cond (aI (((List.getD x6 x8.toNat aJ).2).1) 13) (cond (List.getD x3 (((List.getD x6 x8.toNat aJ).2).1).toNat false) (some false) (cond (aI (((List.getD x6 x8.toNat aJ).2).1) 13) (cG x0 (List.set x3 (((List.getD x6 x8.toNat aJ).2).1).toNat true) x6 x7 (W .i64 (x8+1))) (none))) (none)) (cG x0 x3 x6 x7 (W .i64 (x8+1)))))))) (cond (aG (((((List.getD x6 x8.toNat aJ).2).2).2).1) (0:Int)) (some false) (cond (aG 1000000000000 (((((List.getD x6 x8.toNat aJ).2).2).2).1)) (some false) (cond (aG 0 x8) (let v7:Int:=W .i64 (x8-1);cond (aI v7 (List.length x0)) (cond (bX ((List.getD x6 x8.toNat aJ).1) ((List.getD x0 v7.toNat aJ).1)) (some false) (cond (aA ((((List.getD x6 x8.toNat aJ).2).2).1) (1:Int)) (cond (aI (((List.getD x6 x8.toNat aJ).2).1) 13) (cond (List.getD x3 (((List.getD x6 x8.toNat aJ).2).1).toNat false) (some false) (cond (aI (((List.getD x6 x8.toNat aJ).2).1) 13) (cG x0 (List.set x3 (((List.getD x6 x8.toNat aJ).2).1).toNat true) x6 x7 (W .i64 (x8+1))) (none))) (none)) (cG x0 x3 x6 x7 (W .i64 (x8+1))))) (none)) (cond (aA ((((List.getD x6 x8.toNat aJ).2).2).1) (1:Int)) (cond (aI (((List.getD x6 x8.toNat aJ).2).1) 13) (cond (List.getD x3 (((List.getD x6 x8.toNat aJ).2).1).toNat false) (some false) (cond (aI (((List.getD x6 x8.toNat aJ).2).1) 13) (cG x0 (List.set x3 (((List.getD x6 x8.toNat aJ).2).1).toNat true) x6 x7 (W .i64 (x8+1))) (none))) (none)) (cG x0 x3 x6 x7 (W .i64 (x8+1)))))))))))) (none)) (some true)
def jN.l3(N:Nat):Nat→jN.c0
 |0,_,_,_,_,_=>none
 |n+1,x0,x3,x6,x7,x8=>jN.jU N (jN.l3 N n) x0 x3 x6 x7 x8
def jN.b(N:Nat)(lC:jN.c0)(a0:aD):Option (Bool):=
 lC a0 (List.replicate 13 false) a0 (List.length a0:Int) (0:Int)
def jN(N:Nat)(a0:aD):Option (Bool):=jN.b N (jN.l3 N N) a0
abbrev vR.aY:=Int→av→Int→Int→Option (Int)
def vR.cD(N:Nat)(bA:vR.aY)(x1:Int)(aQ:av)(aK:Int)(aP:Int):Option (Int):=
 cond (aG aP aK) (cond (aI aP (List.length aQ)) (cond (aA ((List.getD aQ aP.toNat bL).1) x1) (some (((List.getD aQ aP.toNat bL).2).1)) (bA x1 aQ aK (W .i64 (aP+1)))) (none)) (some (0:Int))
def vR.l4(N:Nat):Nat→vR.aY
 |0,_,_,_,_=>none
 |n+1,x1,aQ,aK,aP=>vR.cD N (vR.l4 N n) x1 aQ aK aP
def vR.b(N:Nat)(c6:vR.aY)(a0:av)(a1:Int):Option (Int):=
 (ma N a0).bind fun r1=>cond (!r1) (some (0:Int)) (c6 a1 a0 (List.length a0:Int) (0:Int))
def vR(N:Nat)(a0:av)(a1:Int):Option (Int):=vR.b N (vR.l4 N N) a0 a1
abbrev zf.aY:=av→aD→Int→Int→Option (Bool)
def zf.cD(N:Nat)(bA:zf.aY)(x0:av)(cc:aD)(db:Int)(cV:Int):Option (Bool):=
 cond (aG cV db) (cond (aI cV (List.length cc)) ((vR N x0 (((List.getD cc cV.toNat aJ).2).1)).bind fun r4=>cond (aA r4 0) (some false) (bA x0 cc db (W .i64 (cV+1)))) (none)) (some true)
def zf.l4(N:Nat):Nat→zf.aY
 |0,_,_,_,_=>none
 |n+1,x0,cc,db,cV=>zf.cD N (zf.l4 N n) x0 cc db cV
def zf.b(N:Nat)(c6:zf.aY)(a0:av)(a1:aD):Option (Bool):=
 (ma N a0).bind fun r1=>cond (!r1) (some false) ((jN N a1).bind fun r2=>cond (!r2) (some false) (c6 a0 a1 (List.length a1:Int) (0:Int)))
def zf(N:Nat)(a0:av)(a1:aD):Option (Bool):=zf.b N (zf.l4 N N) a0 a1
def Ld(N:Nat)(a0:Int)(a1:Int):Option (Bool):=
 cond (aA a0 1) (some (aA a1 0)) (cond (aA a0 2) (some (aA a1 0)) (cond (aA a0 3) (some (aA a1 0)) (cond (aA a0 4) (some (aA a1 0)) (cond (aA a0 5) (cond (bX 1 a1) (some (bX a1 24)) (some false)) (cond (aA a0 6) (cond (bX 1 a1) (some (bX a1 12)) (some false)) (cond (aA a0 7) (cond (bX 1 a1) (some (bX a1 12)) (some false)) (some false)))))))
def Lf(N:Nat)(a0:Int)(a1:Int)(a2:bY):Option (Int):=
 cond (!aA a0 a2.1) (some (W .i64 (a0-a2.1))) (some (W .i64 (a1-a2.2.1)))
abbrev wR.bT:=aj→aj→Int→Int→Option (Bool)
def wR.dA(N:Nat)(cS:wR.bT)(x0:aj)(x5:aj)(x6:Int)(x7:Int):Option (Bool):=
 cond (aG x7 x6) (cond (aI x7 (List.length x5)) ((Ld N ((List.getD x5 x7.toNat aM).1) (((List.getD x5 x7.toNat aM).2).1)).bind fun r2=>cond (!r2) (some false) (cond (aA ((((List.getD x5 x7.toNat aM).2).2).1) (0:Int)) (some false) (cond (aG 0 x7) (let v3:Int:=W .i64 (x7-1);cond (aI v3 (List.length x0)) ((Lf N ((List.getD x5 x7.toNat aM).1) (((List.getD x5 x7.toNat aM).2).1) (List.getD x0 v3.toNat aM)).bind fun r4=>cond (bX r4 0) (some false) (cS x0 x5 x6 (W .i64 (x7+1)))) (none)) (cS x0 x5 x6 (W .i64 (x7+1)))))) (none)) (some true)
def wR.l2(N:Nat):Nat→wR.bT
 |0,_,_,_,_=>none
 |n+1,x0,x5,x6,x7=>wR.dA N (wR.l2 N n) x0 x5 x6 x7
def wR.b(N:Nat)(eI:wR.bT)(a0:aj):Option (Bool):=
 eI a0 a0 (List.length a0:Int) (0:Int)
def wR(N:Nat)(a0:aj):Option (Bool):=wR.b N (wR.l2 N N) a0
def CV(N:Nat)(a0:Int):Option aT:=
 cond (aG 63 0) (none) (some ((shr .i64 a0 63),((W .u64 a0),())))
abbrev jK.c0:=aT→Int→Int→Int→c3→Int→Int→Option (aT×(Bool))
def jK.jU(N:Nat)(cG:jK.c0)(x2:aT)(x4:Int)(x5:Int)(x6:Int)(aQ:c3)(aK:Int)(aP:Int):Option (aT×(Bool)):=
 cond (aG aP aK) (cond (aI aP (List.length aQ)) ((oT N x6 (((List.getD aQ aP.toNat bL).2).1) (0:Int)).bind fun r2=>(oT N x5 (W .u64 ((List.getD aQ aP.toNat bL).1)) r2.2).bind fun r4=>cond (aG 63 0) (none) (cG x2 (W .i64 ((W .i64 (x4+(shr .i64 ((List.getD aQ aP.toNat bL).1) (63:Int))))+(W .i64 r4.2))) r4.1 r2.1 aQ aK (W .i64 (aP+1)))) (none)) (cond (aG 63 0) (none) (cond (!aA x4 (shr .i64 (W .i64 x5) 63)) (some (bL,false)) (some (((W .i64 x5),(x6,())),true))))
def jK.l3(N:Nat):Nat→jK.c0
 |0,_,_,_,_,_,_,_=>none
 |n+1,x2,x4,x5,x6,aQ,aK,aP=>jK.jU N (jK.l3 N n) x2 x4 x5 x6 aQ aK aP
def jK.b(N:Nat)(lC:jK.c0)(a0:c3):Option (aT×(Bool)):=
 lC bL (0:Int) (0:Int) (0:Int) a0 (List.length a0:Int) (0:Int)
def jK(N:Nat)(a0:c3):Option (aT×(Bool)):=jK.b N (jK.l3 N N) a0
abbrev yq.bf:=aT→c3→aj→Int→Int→Option aT
def yq.c7(N:Nat)(bh:yq.bf)(x2:aT)(x3:c3)(aP:aj)(bn:Int)(bu:Int):Option aT:=
 cond (aG bu bn) (cond (aI bu (List.length aP)) ((CV N ((((List.getD aP bu.toNat aM).2).2).1)).bind fun r3=>cond (small (List.length x3+List.length ([r3]))) (bh x2 (x3++([r3])) aP bn (W .i64 (bu+1))) (none)) (none)) ((jK N x3).bind fun r6=>some r6.1)
def yq.l5(N:Nat):Nat→yq.bf
 |0,_,_,_,_,_=>none
 |n+1,x2,x3,aP,bn,bu=>yq.c7 N (yq.l5 N n) x2 x3 aP bn bu
def yq.b(N:Nat)(dw:yq.bf)(a0:aj):Option aT:=
 (wR N a0).bind fun r1=>cond (!r1) (some bL) (dw bL ([]) a0 (List.length a0:Int) (0:Int))
def yq(N:Nat)(a0:aj):Option aT:=yq.b N (yq.l5 N N) a0
def CY(N:Nat)(a0:aT)(a1:aT):Option (Int):=
 cond (aG a0.1 a1.1) (some (-1:Int)) (cond (aA a0.1 a1.1) (cond (aG a0.2.1 a1.2.1) (some (-1:Int)) (cond (jT (.pair (.int .i64) (.pair (.int .u64) .unit)) a0 a1) (some (0:Int)) (some (1:Int)))) (cond (jT (.pair (.int .i64) (.pair (.int .u64) .unit)) a0 a1) (some (0:Int)) (some (1:Int))))
def Qp(N:Nat)(a0:aT):Option (Int):=
 (CY N a0 bL).bind fun r1=>some r1
def RE(N:Nat)(a0:Int)(a1:Int):Option (Bool):=
 cond (bX 0 a0) (cond (bX a0 24) (cond (bX 0 a1) (some (aG a1 6)) (some false)) (some false)) (some false)
def Lh(N:Nat)(a0:Int):Option (Bool):=
 some (!aA a0 (-9223372036854775808))
def OU(N:Nat)(a0:Int)(a1:Int)(a2:bY):Option (Int):=
 cond (!aA a0 a2.1) (some (W .i64 (a0-a2.1))) (some (W .i64 (a1-a2.2.1)))
abbrev kM.bT:=aj→aj→Int→Int→Option (Bool)
def kM.dA(N:Nat)(cS:kM.bT)(x0:aj)(x5:aj)(x6:Int)(x7:Int):Option (Bool):=
 cond (aG x7 x6) (cond (aI x7 (List.length x5)) ((RE N ((List.getD x5 x7.toNat aM).1) (((List.getD x5 x7.toNat aM).2).1)).bind fun r2=>cond (!r2) (some false) (cond (aA ((((List.getD x5 x7.toNat aM).2).2).1) (0:Int)) (some false) ((Lh N ((((List.getD x5 x7.toNat aM).2).2).1)).bind fun r3=>cond (!r3) (some false) (cond (aG 0 x7) (let v4:Int:=W .i64 (x7-1);cond (aI v4 (List.length x0)) ((OU N ((List.getD x5 x7.toNat aM).1) (((List.getD x5 x7.toNat aM).2).1) (List.getD x0 v4.toNat aM)).bind fun r5=>cond (bX r5 0) (some false) (cS x0 x5 x6 (W .i64 (x7+1)))) (none)) (cS x0 x5 x6 (W .i64 (x7+1))))))) (none)) (some true)
def kM.l2(N:Nat):Nat→kM.bT
 |0,_,_,_,_=>none
 |n+1,x0,x5,x6,x7=>kM.dA N (kM.l2 N n) x0 x5 x6 x7
def kM.b(N:Nat)(eI:kM.bT)(a0:aj):Option (Bool):=
 eI a0 a0 (List.length a0:Int) (0:Int)
def kM(N:Nat)(a0:aj):Option (Bool):=kM.b N (kM.l2 N N) a0
abbrev mf.bf:=Int→aT→c3→aj→Int→Int→Option aT
def mf.c7(N:Nat)(bh:mf.bf)(x1:Int)(x4:aT)(x5:c3)(bu:aj)(cc:Int)(db:Int):Option aT:=
 cond (aG db cc) (cond (aI db (List.length bu)) (cond (aA (((List.getD bu db.toNat aM).2).1) x1) ((CV N ((((List.getD bu db.toNat aM).2).2).1)).bind fun r3=>cond (small (List.length x5+List.length ([r3]))) (bh x1 x4 (x5++([r3])) bu cc (W .i64 (db+1))) (none)) (bh x1 x4 x5 bu cc (W .i64 (db+1)))) (none)) ((jK N x5).bind fun r7=>some r7.1)
def mf.l5(N:Nat):Nat→mf.bf
 |0,_,_,_,_,_,_=>none
 |n+1,x1,x4,x5,bu,cc,db=>mf.c7 N (mf.l5 N n) x1 x4 x5 bu cc db
def mf.b(N:Nat)(dw:mf.bf)(a0:aj)(a1:Int):Option aT:=
 (kM N a0).bind fun r1=>cond (!r1) (some bL) (dw a1 bL ([]) a0 (List.length a0:Int) (0:Int))
def mf(N:Nat)(a0:aj)(a1:Int):Option aT:=mf.b N (mf.l5 N N) a0 a1
abbrev zg.bT:=aj→Int→Option (Bool)
def zg.dA(N:Nat)(cS:zg.bT)(x0:aj)(x4:Int):Option (Bool):=
 cond (aG x4 6) ((mf N x0 x4).bind fun r2=>(Qp N r2).bind fun r3=>cond (!aA r3 0) (some false) (cS x0 (W .i64 (x4+1)))) ((kM N x0).bind fun r5=>some r5)
def zg.l2(N:Nat):Nat→zg.bT
 |0,_,_=>none
 |n+1,x0,x4=>zg.dA N (zg.l2 N n) x0 x4
def zg.b(N:Nat)(eI:zg.bT)(a0:aj):Option (Bool):=
 eI a0 (0:Int)
def zg(N:Nat)(a0:aj):Option (Bool):=zg.b N (zg.l2 N N) a0
def OV(N:Nat)(a0:cr):Option (Bool):=
 cond (bX 1 a0.1) (cond (bX a0.1 1099511627776) (cond (bX 1 a0.2.1) (cond (bX a0.2.1 24) (cond (bX 0 a0.2.2.1) (cond (aG a0.2.2.1 6) (cond (aA a0.2.2.2.1 1) (cond (bX 1 a0.2.2.2.2.1) (cond (bX a0.2.2.2.2.1 1000000000) (cond (bX 1 a0.2.2.2.2.2.1) (some (bX a0.2.2.2.2.2.1 1000000000000)) (some false)) (some false)) (some false)) (cond (aA a0.2.2.2.1 2) (cond (bX 1 a0.2.2.2.2.1) (cond (bX a0.2.2.2.2.1 1000000000) (cond (bX 1 a0.2.2.2.2.2.1) (some (bX a0.2.2.2.2.2.1 1000000000000)) (some false)) (some false)) (some false)) (some false))) (some false)) (some false)) (some false)) (some false)) (some false)) (some false)
abbrev yn.bT:=aU→aU→Int→Int→Option (Bool)
def yn.dA(N:Nat)(cS:yn.bT)(x0:aU)(x5:aU)(x6:Int)(x7:Int):Option (Bool):=
 cond (aG x7 x6) (cond (aI x7 (List.length x5)) ((OV N (List.getD x5 x7.toNat dT)).bind fun r2=>cond (!r2) (some false) (cond (aG 0 x7) (let v3:Int:=W .i64 (x7-1);cond (aI v3 (List.length x0)) (cond (bX ((List.getD x5 x7.toNat dT).1) ((List.getD x0 v3.toNat dT).1)) (some false) (cS x0 x5 x6 (W .i64 (x7+1)))) (none)) (cS x0 x5 x6 (W .i64 (x7+1))))) (none)) (some (bX (List.length x0:Int) 32))
def yn.l2(N:Nat):Nat→yn.bT
 |0,_,_,_,_=>none
 |n+1,x0,x5,x6,x7=>yn.dA N (yn.l2 N n) x0 x5 x6 x7
def yn.b(N:Nat)(eI:yn.bT)(a0:aU):Option (Bool):=
 eI a0 a0 (List.length a0:Int) (0:Int)
def yn(N:Nat)(a0:aU):Option (Bool):=yn.b N (yn.l2 N N) a0
abbrev lj.aY:=Int→bp→aD→Int→Int→Option (bp×(Bool))
def lj.cD(N:Nat)(bA:lj.aY)(x1:Int)(x4:bp)(aP:aD)(bn:Int)(bu:Int):Option (bp×(Bool)):=
 cond (aG bu bn) (cond (aI bu (List.length aP)) (cond (aA ((List.getD aP bu.toNat aJ).1) x1) (some (List.getD aP bu.toNat aJ,true)) (bA x1 x4 aP bn (W .i64 (bu+1)))) (none)) (some (aJ,false))
def lj.l4(N:Nat):Nat→lj.aY
 |0,_,_,_,_,_=>none
 |n+1,x1,x4,aP,bn,bu=>lj.cD N (lj.l4 N n) x1 x4 aP bn bu
def lj.b(N:Nat)(c6:lj.aY)(a0:aD)(a1:Int):Option (bp×(Bool)):=
 (jN N a0).bind fun r1=>cond (!r1) (some (aJ,false)) (c6 a1 aJ a0 (List.length a0:Int) (0:Int))
def lj(N:Nat)(a0:aD)(a1:Int):Option (bp×(Bool)):=lj.b N (lj.l4 N N) a0 a1
def Vt(N:Nat)(a0:ag)(a1:Int):Option (Bool):=
 (lj N a0.2.1 a1).bind fun r1=>some r1.2
def Vp(N:Nat)(a0:Int):Option (Bool):=
 cond (bX 1 a0) (some (bX a0 1000000000000)) (some false)
def F84(N:Nat)(a0:Int):Option (Bool):=
 (Vp N a0).bind fun r1=>some (!r1)
abbrev oL.bT:=(List (Int))→Unit→Int→Int→Option (Int)
def oL.dA(N:Nat)(cS:oL.bT)(x0:List (Int))(x1:Unit)(x7:Int)(x8:Int):Option (Int):=
 cond (aG x8 x7) (cond (aI x8 (List.length x0)) ((F84 N (List.getD x0 x8.toNat (0:Int))).bind fun r2=>cond (r2) (some x8) (cS x0 () x7 (W .i64 (x8+1)))) (none)) (some (-1:Int))
def oL.l2(N:Nat):Nat→oL.bT
 |0,_,_,_,_=>none
 |n+1,x0,x1,x7,x8=>oL.dA N (oL.l2 N n) x0 x1 x7 x8
def oL.b(N:Nat)(eI:oL.bT)(a0:List (Int))(a1:Unit):Option (Int):=
 eI a0 () (List.length a0:Int) (0:Int)
def oL(N:Nat)(a0:List (Int))(a1:Unit):Option (Int):=oL.b N (oL.l2 N N) a0 a1
def F83(N:Nat)(a0:List (Int))(a1:Unit):Option (Bool):=
 (oL N a0 ()).bind fun r1=>some (bX 0 r1)
abbrev iz.oA:=aa→ag→aU→Int→Int→Option (Bool)
abbrev iz.jA:=aa→ag→aj→Int→Int→Option (Bool)
abbrev iz.aY:=aa→ag→aj→Int→Int→Option (Bool)
def iz.sD(N:Nat)(B3:iz.oA)(x2:aa)(x3:ag)(oO:aU)(WI:Int)(Mq:Int):Option (Bool):=
 cond (aG Mq WI) (cond (aI Mq (List.length oO)) ((Vt N x3 (((List.getD oO Mq.toNat dT).2).1)).bind fun KG=>cond (!KG) (some false) (cond (bX (List.length x2.1:Int) ((((List.getD oO Mq.toNat dT).2).2).1)) (some false) (B3 x2 x3 oO WI (W .i64 (Mq+1))))) (none)) ((F83 N x3.2.2.2.2.1 ()).bind fun B4=>some (!B4))
def iz.tL(N:Nat):Nat→iz.oA
 |0,_,_,_,_,_=>none
 |n+1,x2,x3,oO,WI,Mq=>iz.sD N (iz.tL N n) x2 x3 oO WI Mq
def iz.sC(N:Nat)(B5:iz.oA)(kS:iz.jA)(x2:aa)(x3:ag)(WJ:aj)(x84:Int)(Uk:Int):Option (Bool):=
 cond (aG Uk x84) (cond (aI Uk (List.length WJ)) (cond (!aA ((List.getD WJ Uk.toNat aM).1) (0:Int)) ((Vt N x3 ((List.getD WJ Uk.toNat aM).1)).bind fun rO=>cond (!rO) (some false) (cond (bX (List.length x2.1:Int) (((List.getD WJ Uk.toNat aM).2).1)) (some false) (kS x2 x3 WJ x84 (W .i64 (Uk+1))))) (cond (bX (List.length x2.1:Int) (((List.getD WJ Uk.toNat aM).2).1)) (some false) (kS x2 x3 WJ x84 (W .i64 (Uk+1))))) (none)) (B5 x2 x3 x3.2.2.2.2.2.1 (List.length x3.2.2.2.2.2.1:Int) (0:Int))
def iz.tK(N:Nat):Nat→iz.jA
 |0,_,_,_,_,_=>none
 |n+1,x2,x3,WJ,x84,Uk=>iz.sC N (iz.tL N N) (iz.tK N n) x2 x3 WJ x84 Uk
def iz.cD(N:Nat)(B6:iz.jA)(bA:iz.aY)(x2:aa)(x3:ag)(Cv:aj)(P5:Int)(z5:Int):Option (Bool):=
 cond (aG z5 P5) (cond (aI z5 (List.length Cv)) (cond (aA ((List.getD Cv z5.toNat aM).1) (5:Int)) ((Vt N x3 (((List.getD Cv z5.toNat aM).2).1)).bind fun r9=>cond (!r9) (some false) (bA x2 x3 Cv P5 (W .i64 (z5+1)))) (cond (aA ((List.getD Cv z5.toNat aM).1) (6:Int)) ((vR N x3.1 (((List.getD Cv z5.toNat aM).2).1)).bind fun jV=>cond (aA jV 0) (some false) (bA x2 x3 Cv P5 (W .i64 (z5+1)))) (cond (aA ((List.getD Cv z5.toNat aM).1) (7:Int)) ((vR N x3.1 (((List.getD Cv z5.toNat aM).2).1)).bind fun jE=>cond (aA jE 0) (some false) (bA x2 x3 Cv P5 (W .i64 (z5+1)))) (bA x2 x3 Cv P5 (W .i64 (z5+1)))))) (none)) (B6 x2 x3 x3.2.2.2.1 (List.length x3.2.2.2.1:Int) (0:Int))
def iz.l4(N:Nat):Nat→iz.aY
 |0,_,_,_,_,_=>none
 |n+1,x2,x3,Cv,P5,z5=>iz.cD N (iz.tK N N) (iz.l4 N n) x2 x3 Cv P5 z5
def iz.b(N:Nat)(c6:iz.aY)(a0:aa)(a1:ag):Option (Bool):=
 (wQ N a0).bind fun r1=>cond (!r1) (some false) ((zf N a1.1 a1.2.1).bind fun r2=>cond (!r2) (some false) ((wR N a1.2.2.1).bind fun r3=>cond (!r3) (some false) ((yq N a1.2.2.1).bind fun r4=>(Qp N r4).bind fun r5=>cond (!aA r5 0) (some false) ((zg N a1.2.2.2.1).bind fun r6=>cond (!r6) (some false) ((yn N a1.2.2.2.2.2.1).bind fun r7=>cond (!r7) (some false) (cond (!aA (List.length a1.2.2.2.2.1:Int) (List.length a0.1:Int)) (some false) (c6 a0 a1 a1.2.2.1 (List.length a1.2.2.1:Int) (0:Int))))))))
def iz(N:Nat)(a0:aa)(a1:ag):Option (Bool):=iz.b N (iz.l4 N N) a0 a1
abbrev lx.bf:=Int→av→aj→Int→Int→Option av
def lx.c7(N:Nat)(bh:lx.bf)(x1:Int)(x5:av)(aK:aj)(aP:Int)(bn:Int):Option av:=
 cond (aG bn aP) (cond (aI bn (List.length aK)) (cond (aA ((List.getD aK bn.toNat aM).1) x1) (cond (small (List.length x5+List.length ([(((List.getD aK bn.toNat aM).2).1,((((List.getD aK bn.toNat aM).2).2).1,()))]))) (bh x1 (x5++([(((List.getD aK bn.toNat aM).2).1,((((List.getD aK bn.toNat aM).2).2).1,()))])) aK aP (W .i64 (bn+1))) (none)) (bh x1 x5 aK aP (W .i64 (bn+1)))) (none)) (some x5)
def lx.l5(N:Nat):Nat→lx.bf
 |0,_,_,_,_,_=>none
 |n+1,x1,x5,aK,aP,bn=>lx.c7 N (lx.l5 N n) x1 x5 aK aP bn
def lx.b(N:Nat)(dw:lx.bf)(a0:aj)(a1:Int):Option av:=
 (kM N a0).bind fun r1=>cond (!r1) (some ([])) (dw a1 ([]) a0 (List.length a0:Int) (0:Int))
def lx(N:Nat)(a0:aj)(a1:Int):Option av:=lx.b N (lx.l5 N N) a0 a1
def F96(N:Nat)(a0:Int):Option (Int):=
 cond (aG a0 0) (some (W .u64 (0-(W .u64 a0)))) (some (W .u64 a0))
def OO(N:Nat)(a0:Int)(a1:Int):Option ((Int)×(Int)):=
 let v1:Int:=jH .and .u64 a0 4294967295;cond (aG 32 0) (none) (let v2:Int:=shr .u64 a0 32;let v3:Int:=jH .and .u64 a1 4294967295;cond (aG 32 0) (none) (let v4:Int:=shr .u64 a1 32;cond (aG 32 0) (none) (let v8:Int:=W .u64 ((W .u64 (v2*v3))+(shr .u64 (W .u64 (v1*v3)) (32:Int)));cond (aG 32 0) (none) (cond (aG 32 0) (none) (some ((W .u64 ((W .u64 ((W .u64 (v2*v4))+(shr .u64 v8 32)))+(shr .u64 (W .u64 ((jH .and .u64 v8 4294967295)+(W .u64 (v1*v4)))) (32:Int)))),(W .u64 (a0*a1))))))))
abbrev mK.Mr:=Int→Int→aT→Option (aT×(Bool))
def mK.K8(N:Nat)(x1:Int)(x2:Int)(x6:aT):Option (aT×(Bool)):=
 (oU N (0:Int) x2 (0:Int)).bind fun r3=>(oU N (0:Int) x1 r3.2).bind fun r4=>some (((W .i64 r4.1),(r3.1,())),true)
def mK.j7(N:Nat)(x1:Int)(x2:Int)(x6:aT):Option (aT×(Bool)):=mK.K8 N x1 x2 x6
def mK.b(N:Nat)(xz:mK.Mr)(a0:Bool)(a1:Int)(a2:Int):Option (aT×(Bool)):=
 cond (!a0) (cond (bX 9223372036854775808 a1) (some (bL,false)) (some (((W .i64 a1),(a2,())),true))) (cond (aG 9223372036854775808 a1) (some (bL,false)) (cond (aA a1 9223372036854775808) (cond (aG 0 a2) (some (bL,false)) (xz a1 a2 bL)) (xz a1 a2 bL)))
def mK(N:Nat)(a0:Bool)(a1:Int)(a2:Int):Option (aT×(Bool)):=mK.b N (mK.j7 N) a0 a1 a2
def CU(N:Nat)(a0:Int)(a1:Int):Option aT:=
 (F96 N a0).bind fun r1=>(F96 N a1).bind fun r2=>(OO N r1 r2).bind fun r3=>(mK N (!(jT .bool (aG a0 0) (aG a1 0))) r3.1 r3.2).bind fun r4=>some r4.1
def Ik(N:Nat)(a0:aT)(a1:aT):Option (aT×(Bool)):=
 (oT N a0.2.1 a1.2.1 (0:Int)).bind fun r1=>(oT N (W .u64 a0.1) (W .u64 a1.1) r1.2).bind fun r4=>let v5:Int:=W .i64 r4.1;cond (jT .bool (aG a0.1 0) (aG a1.1 0)) (cond (!(jT .bool (aG v5 0) (aG a0.1 0))) (some (bL,false)) (some ((v5,(r1.1,())),true))) (some ((v5,(r1.1,())),true))
abbrev wq.bf:=aa→ag→c3→av→Int→Int→Option (c3×(Int))
def wq.c7(N:Nat)(bh:wq.bf)(x2:aa)(x3:ag)(x6:c3)(cV:av)(fu:Int)(fE:Int):Option (c3×(Int)):=
 cond (aG fE fu) (cond (aI fE (List.length cV)) (cond (aI ((List.getD cV fE.toNat bL).1) (List.length x2.1)) (cond (aI ((List.getD x2.1 ((List.getD cV fE.toNat bL).1).toNat aJ).1) (List.length x6)) (cond (aI ((List.getD cV fE.toNat bL).1) (List.length x3.2.2.2.2.1)) ((CU N (((List.getD cV fE.toNat bL).2).1) (List.getD x3.2.2.2.2.1 ((List.getD cV fE.toNat bL).1).toNat (0:Int))).bind fun r5=>(Ik N (List.getD x6 ((List.getD x2.1 ((List.getD cV fE.toNat bL).1).toNat aJ).1).toNat bL) r5).bind fun r6=>cond (aI ((List.getD x2.1 ((List.getD cV fE.toNat bL).1).toNat aJ).1) (List.length x6)) (bh x2 x3 (List.set x6 ((List.getD x2.1 ((List.getD cV fE.toNat bL).1).toNat aJ).1).toNat r6.1) cV fu (W .i64 (fE+1))) (none)) (none)) (none)) (none)) (none)) (some (x6,(0:Int)))
def wq.l5(N:Nat):Nat→wq.bf
 |0,_,_,_,_,_,_=>none
 |n+1,x2,x3,x6,cV,fu,fE=>wq.c7 N (wq.l5 N n) x2 x3 x6 cV fu fE
def wq.b(N:Nat)(dw:wq.bf)(a0:aa)(a1:ag):Option (c3×(Int)):=
 (iz N a0 a1).bind fun r1=>cond (!r1) (some ([],(1:Int))) (cond (gg 4 4) ((lx N a1.2.2.2.1 (0:Int)).bind fun r3=>dw a0 a1 (List.replicate (4:Int).toNat bL) r3 (List.length r3:Int) (0:Int)) (none))
def wq(N:Nat)(a0:aa)(a1:ag):Option (c3×(Int)):=wq.b N (wq.l5 N N) a0 a1
def LX(N:Nat)(a0:aT)(a1:aT):Option (aT×(Bool)):=
 (oU N a0.2.1 a1.2.1 (0:Int)).bind fun r1=>(oU N (W .u64 a0.1) (W .u64 a1.1) r1.2).bind fun r4=>let v5:Int:=W .i64 r4.1;cond (!(jT .bool (aG a0.1 0) (aG a1.1 0))) (cond (!(jT .bool (aG v5 0) (aG a0.1 0))) (some (bL,false)) (some ((v5,(r1.1,())),true))) (some ((v5,(r1.1,())),true))
def VQ(N:Nat)(a0:aT):Option (aT×(Bool)):=
 (LX N bL a0).bind fun r1=>some (r1.1,r1.2)
def Iz(N:Nat)(a0:aT):Option (aT×(Bool)):=
 cond (aG a0.1 0) ((VQ N a0).bind fun r1=>some (r1.1,r1.2)) (some (a0,true))
abbrev mo.bf:=Int→(List (Int))→aD→Int→Int→Option (List (Int))
def mo.c7(N:Nat)(bh:mo.bf)(x1:Int)(x5:List (Int))(aP:aD)(bn:Int)(bu:Int):Option (List (Int)):=
 cond (aG bu bn) (cond (aI bu (List.length aP)) (cond (aA ((List.getD aP bu.toNat aJ).1) x1) (cond (small (List.length x5+List.length ([bu]))) (bh x1 (x5++([bu])) aP bn (W .i64 (bu+1))) (none)) (bh x1 x5 aP bn (W .i64 (bu+1)))) (none)) (some x5)
def mo.l5(N:Nat):Nat→mo.bf
 |0,_,_,_,_,_=>none
 |n+1,x1,x5,aP,bn,bu=>mo.c7 N (mo.l5 N n) x1 x5 aP bn bu
def mo.b(N:Nat)(dw:mo.bf)(a0:aa)(a1:Int):Option (List (Int)):=
 (wQ N a0).bind fun r1=>cond (!r1) (some ([])) (dw a1 ([]) a0.1 (List.length a0.1:Int) (0:Int))
def mo(N:Nat)(a0:aa)(a1:Int):Option (List (Int)):=mo.b N (mo.l5 N N) a0 a1
def RC(N:Nat)(a0:aT):Option ((Int)×(Int)):=
 cond (bX 0 a0.1) (some ((W .u64 a0.1),a0.2.1)) ((oU N (0:Int) a0.2.1 (0:Int)).bind fun r2=>(oU N (0:Int) (W .u64 a0.1) r2.2).bind fun r4=>some (r4.1,r2.1))
abbrev jJ.Mr:=Int→Int→Option (Int)
abbrev jJ.adM:=Int→Int→Option (Int)
def jJ.K8(N:Nat)(x0:Int)(x2:Int):Option (Int):=
 cond (bX 256 x0) (cond (aG 8 0) (none) (let v8:Int:=W .u8 (shr .u64 x0 8);cond (aI v8 (ByteArray.size (strOf [0,1,2,2,3,3,3,3,4,4,4,4,4,4,4,4,5,5,5,5,5,5,5,5,5,5,5,5,5,5,5,5,6,6,6,6,6,6,6,6,6,6,6,6,6,6,6,6,6,6,6,6,6,6,6,6,6,6,6,6,6,6,6,6,7,7,7,7,7,7,7,7,7,7,7,7,7,7,7,7,7,7,7,7,7,7,7,7,7,7,7,7,7,7,7,7,7,7,7,7,7,7,7,7,7,7,7,7,7,7,7,7,7,7,7,7,7,7,7,7,7,7,7,7,7,7,7,7,8,8,8,8,8,8,8,8,8,8,8,8,8,8,8,8,8,8,8,8,8,8,8,8,8,8,8,8,8,8,8,8,8,8,8,8,8,8,8,8,8,8,8,8,8,8,8,8,8,8,8,8,8,8,8,8,8,8,8,8,8,8,8,8,8,8,8,8,8,8,8,8,8,8,8,8,8,8,8,8,8,8,8,8,8,8,8,8,8,8,8,8,8,8,8,8,8,8,8,8,8,8,8,8,8,8,8,8,8,8,8,8,8,8,8,8,8,8,8,8,8,8,8,8,8,8,8,8]))) (some (W .i64 ((W .i64 (x2+8))+(W .i64 (((strOf [0,1,2,2,3,3,3,3,4,4,4,4,4,4,4,4,5,5,5,5,5,5,5,5,5,5,5,5,5,5,5,5,6,6,6,6,6,6,6,6,6,6,6,6,6,6,6,6,6,6,6,6,6,6,6,6,6,6,6,6,6,6,6,6,7,7,7,7,7,7,7,7,7,7,7,7,7,7,7,7,7,7,7,7,7,7,7,7,7,7,7,7,7,7,7,7,7,7,7,7,7,7,7,7,7,7,7,7,7,7,7,7,7,7,7,7,7,7,7,7,7,7,7,7,7,7,7,7,8,8,8,8,8,8,8,8,8,8,8,8,8,8,8,8,8,8,8,8,8,8,8,8,8,8,8,8,8,8,8,8,8,8,8,8,8,8,8,8,8,8,8,8,8,8,8,8,8,8,8,8,8,8,8,8,8,8,8,8,8,8,8,8,8,8,8,8,8,8,8,8,8,8,8,8,8,8,8,8,8,8,8,8,8,8,8,8,8,8,8,8,8,8,8,8,8,8,8,8,8,8,8,8,8,8,8,8,8,8,8,8,8,8,8,8,8,8,8,8,8,8,8,8,8,8,8,8]).data.getD v8.toNat 0).toNat:Int))))) (none))) (let v11:Int:=W .u8 x0;cond (aI v11 (ByteArray.size (strOf [0,1,2,2,3,3,3,3,4,4,4,4,4,4,4,4,5,5,5,5,5,5,5,5,5,5,5,5,5,5,5,5,6,6,6,6,6,6,6,6,6,6,6,6,6,6,6,6,6,6,6,6,6,6,6,6,6,6,6,6,6,6,6,6,7,7,7,7,7,7,7,7,7,7,7,7,7,7,7,7,7,7,7,7,7,7,7,7,7,7,7,7,7,7,7,7,7,7,7,7,7,7,7,7,7,7,7,7,7,7,7,7,7,7,7,7,7,7,7,7,7,7,7,7,7,7,7,7,8,8,8,8,8,8,8,8,8,8,8,8,8,8,8,8,8,8,8,8,8,8,8,8,8,8,8,8,8,8,8,8,8,8,8,8,8,8,8,8,8,8,8,8,8,8,8,8,8,8,8,8,8,8,8,8,8,8,8,8,8,8,8,8,8,8,8,8,8,8,8,8,8,8,8,8,8,8,8,8,8,8,8,8,8,8,8,8,8,8,8,8,8,8,8,8,8,8,8,8,8,8,8,8,8,8,8,8,8,8,8,8,8,8,8,8,8,8,8,8,8,8,8,8,8,8,8,8]))) (some (W .i64 (x2+(W .i64 (((strOf [0,1,2,2,3,3,3,3,4,4,4,4,4,4,4,4,5,5,5,5,5,5,5,5,5,5,5,5,5,5,5,5,6,6,6,6,6,6,6,6,6,6,6,6,6,6,6,6,6,6,6,6,6,6,6,6,6,6,6,6,6,6,6,6,7,7,7,7,7,7,7,7,7,7,7,7,7,7,7,7,7,7,7,7,7,7,7,7,7,7,7,7,7,7,7,7,7,7,7,7,7,7,7,7,7,7,7,7,7,7,7,7,7,7,7,7,7,7,7,7,7,7,7,7,7,7,7,7,8,8,8,8,8,8,8,8,8,8,8,8,8,8,8,8,8,8,8,8,8,8,8,8,8,8,8,8,8,8,8,8,8,8,8,8,8,8,8,8,8,8,8,8,8,8,8,8,8,8,8,8,8,8,8,8,8,8,8,8,8,8,8,8,8,8,8,8,8,8,8,8,8,8,8,8,8,8,8,8,8,8,8,8,8,8,8,8,8,8,8,8,8,8,8,8,8,8,8,8,8,8,8,8,8,8,8,8,8,8,8,8,8,8,8,8,8,8,8,8,8,8,8,8,8,8,8,8]).data.getD v11.toNat 0).toNat:Int))))) (none))
def jJ.j7(N:Nat)(x0:Int)(x2:Int):Option (Int):=jJ.K8 N x0 x2
def jJ.j4b(N:Nat)(xz:jJ.Mr)(x0:Int)(x2:Int):Option (Int):=
 cond (bX 65536 x0) (cond (aG 16 0) (none) (xz (shr .u64 x0 16) (W .i64 (x2+16)))) (xz x0 x2)
def jJ.j4(N:Nat)(x0:Int)(x2:Int):Option (Int):=jJ.j4b N (jJ.j7 N) x0 x2
def jJ.b(N:Nat)(Tn:jJ.adM)(a0:Int):Option (Int):=
 cond (bX 4294967296 a0) (cond (aG 32 0) (none) (Tn (shr .u64 a0 32) (32:Int))) (Tn a0 (0:Int))
def jJ(N:Nat)(a0:Int):Option (Int):=jJ.b N (jJ.j4 N) a0
def Vb(N:Nat)(a0:Int):Option (Int):=
 (jJ N a0).bind fun r1=>some (W .i64 ((64:Int)-r1))
abbrev c4.aje:=Int→Int→Int→Int→Int→Int→Option ((Int)×(Int))
abbrev c4.oB:=Int→Int→Int→Int→Int→Int→Int→Int→Int→Option ((Int)×(Int))
abbrev c4.To:=Int→Int→Int→Int→Int→Int→Int→Int→Option ((Int)×(Int))
abbrev c4.B7:=Int→Int→Int→Int→Int→Int→Int→Int→Int→Option ((Int)×(Int))
def c4.adf(N:Nat)(x2:Int)(x8:Int)(bu:Int)(cc:Int)(cV:Int)(fu:Int):Option ((Int)×(Int)):=
 cond (aG x8 0) (none) (some ((W .u64 ((W .u64 (cc*4294967296))+fu)),(shr .u64 (W .u64 ((W .u64 ((W .u64 (cV*4294967296))+bu))-(W .u64 (fu*x2)))) x8)))
def c4.j28(N:Nat)(x2:Int)(x8:Int)(bu:Int)(cc:Int)(cV:Int)(fu:Int):Option ((Int)×(Int)):=c4.adf N x2 x8 bu cc cV fu
def c4.AQ(N:Nat)(Tp:c4.aje)(oC:c4.oB)(x2:Int)(x8:Int)(x9:Int)(aQ:Int)(bu:Int)(cc:Int)(db:Int)(cV:Int)(fu:Int):Option ((Int)×(Int)):=
 cond (bX 4294967296 fu) (let v30:Int:=W .u64 (fu-1);let v31:Int:=W .u64 (db+x9);cond (bX 4294967296 v31) (Tp x2 x8 bu cc cV v30) (oC x2 x8 x9 aQ bu cc v31 cV v30)) (cond (aG (W .u64 ((W .u64 ((4294967296:Int)*db))+bu)) (W .u64 (fu*aQ))) (let v43:Int:=W .u64 (fu-1);let v44:Int:=W .u64 (db+x9);cond (bX 4294967296 v44) (Tp x2 x8 bu cc cV v43) (oC x2 x8 x9 aQ bu cc v44 cV v43)) (Tp x2 x8 bu cc cV fu))
def c4.zF(N:Nat):Nat→c4.oB
 |0,_,_,_,_,_,_,_,_,_=>none
 |n+1,x2,x8,x9,aQ,bu,cc,db,cV,fu=>c4.AQ N (c4.j28 N) (c4.zF N n) x2 x8 x9 aQ bu cc db cV fu
def c4.K9(N:Nat)(I3:c4.oB)(x2:Int)(x8:Int)(x9:Int)(aQ:Int)(aK:Int)(bn:Int)(bu:Int)(cc:Int):Option ((Int)×(Int)):=
 let v25:Int:=W .u64 ((W .u64 ((W .u64 (aK*4294967296))+bn))-(W .u64 (cc*x2)));cond (aA x9 0) (none) (let v26:Int:=W .u64 (quo v25 x9);I3 x2 x8 x9 aQ bu cc (W .u64 (v25-(W .u64 (v26*x9)))) v25 v26)
def c4.Qm(N:Nat)(x2:Int)(x8:Int)(x9:Int)(aQ:Int)(aK:Int)(bn:Int)(bu:Int)(cc:Int):Option ((Int)×(Int)):=c4.K9 N (c4.zF N N) x2 x8 x9 aQ aK bn bu cc
def c4.HF(N:Nat)(Ew:c4.To)(NU:c4.B7)(x2:Int)(x8:Int)(x9:Int)(aQ:Int)(aK:Int)(bn:Int)(bu:Int)(cc:Int)(db:Int):Option ((Int)×(Int)):=
 cond (bX 4294967296 cc) (let v19:Int:=W .u64 (cc-1);let v20:Int:=W .u64 (db+x9);cond (bX 4294967296 v20) (Ew x2 x8 x9 aQ aK bn bu v19) (NU x2 x8 x9 aQ aK bn bu v19 v20)) (cond (aG (W .u64 ((W .u64 ((4294967296:Int)*db))+bn)) (W .u64 (cc*aQ))) (let v48:Int:=W .u64 (cc-1);let v49:Int:=W .u64 (db+x9);cond (bX 4294967296 v49) (Ew x2 x8 x9 aQ aK bn bu v48) (NU x2 x8 x9 aQ aK bn bu v48 v49)) (Ew x2 x8 x9 aQ aK bn bu cc))
def c4.HE(N:Nat):Nat→c4.B7
 |0,_,_,_,_,_,_,_,_,_=>none
 |n+1,x2,x8,x9,aQ,aK,bn,bu,cc,db=>c4.HF N (c4.Qm N) (c4.HE N n) x2 x8 x9 aQ aK bn bu cc db
def c4.b(N:Nat)(Tq:c4.B7)(a0:Int)(a1:Int)(a2:Int):Option ((Int)×(Int)):=
 cond (aA a2 0) (none) (cond (bX a2 a0) (none) (cond (aA a0 0) (cond (aA a2 0) (none) (cond (aA a2 0) (none) (some ((W .u64 (quo a1 a2)),(rem a1 a2))))) ((Vb N a2).bind fun r3=>let v4:Int:=W .u64 r3;cond (aG v4 0) (none) (let v5:Int:=W .u64 (shl .u64 a2 v4);cond (aG 32 0) (none) (let v6:Int:=shr .u64 v5 32;cond (aG v4 0) (none) (let v9:Int:=W .u64 ((64:Int)-v4);cond (aG v9 0) (none) (let v11:Int:=jH .or .u64 (W .u64 (shl .u64 a0 v4)) (shr .u64 a1 v9);cond (aG v4 0) (none) (let KH:Int:=W .u64 (shl .u64 a1 v4);cond (aG 32 0) (none) (cond (aA v6 0) (none) (let WK:Int:=W .u64 (quo v11 v6);Tq v5 v4 v6 (jH .and .u64 v5 4294967295) v11 (shr .u64 KH 32) (jH .and .u64 KH 4294967295) WK (W .u64 (v11-(W .u64 (WK*v6))))))))))))))
def c4(N:Nat)(a0:Int)(a1:Int)(a2:Int):Option ((Int)×(Int)):=c4.b N (c4.HE N N) a0 a1 a2
abbrev p8.I4:=aT→Int→Int→Int→Option (aT×(Int)×(Bool))
def p8.vM(N:Nat)(x4:aT)(aQ:Int)(aK:Int)(aP:Int):Option (aT×(Int)×(Bool)):=
 (mK N true aQ aP).bind fun jV=>some (jV.1,(W .i64 aK),true)
def p8.Fk(N:Nat)(x4:aT)(aQ:Int)(aK:Int)(aP:Int):Option (aT×(Int)×(Bool)):=p8.vM N x4 aQ aK aP
def p8.b(N:Nat)(rF:p8.I4)(a0:aT)(a1:Int):Option (aT×(Int)×(Bool)):=
 cond (aG a1 1) (some (bL,(0:Int),false)) ((RC N a0).bind fun r1=>let v2:Int:=W .u64 a1;(c4 N (0:Int) r1.1 v2).bind fun r3=>(c4 N r3.2 r1.2 v2).bind fun r4=>cond (bX 0 a0.1) (some (((W .i64 r3.1),(r4.1,())),(W .i64 r4.2),true)) (cond (aG 0 r4.2) ((oT N r4.1 (1:Int) (0:Int)).bind fun r7=>rF bL (W .u64 (r3.1+r7.2)) (W .u64 (v2-r4.2)) r7.1) (rF bL r3.1 r4.2 r4.1)))
def p8(N:Nat)(a0:aT)(a1:Int):Option (aT×(Int)×(Bool)):=p8.b N (p8.Fk N) a0 a1
def HS(N:Nat)(a0:aT):Option ((Int)×(Bool)):=
 cond (aG 63 0) (none) (cond (!aA a0.1 (shr .i64 (W .i64 a0.2.1) 63)) (some ((0:Int),false)) (some ((W .i64 a0.2.1),true)))
abbrev qq.wH:=Int→aa→ag→aD→aT→Int→Int→c3→Int→Int→Option (aD×(Int))
abbrev qq.fe:=Int→aa→ag→aD→c3→Int→Int→Option (aD×(Int))
def qq.qg(N:Nat)(ff:qq.fe)(x2:Int)(x3:aa)(x4:ag)(aQ:aD)(aP:aT)(cc:Int)(fE:Int)(xA:c3)(P6:Int)(Gb:Int):Option (aD×(Int)):=
 cond (aA fE 0) (ff x2 x3 x4 aQ xA P6 (W .i64 (Gb+1))) (let KH:Int:=W .i64 (x2+(List.length aQ:Int));(Qp N aP).bind fun jE=>cond (aG 0 jE) (cond (small (List.length aQ+List.length ([(KH,(cc,((2:Int),(fE,()))))]))) (ff x2 x3 x4 (aQ++([(KH,(cc,((2:Int),(fE,()))))])) xA P6 (W .i64 (Gb+1))) (none)) (cond (small (List.length aQ+List.length ([(KH,(cc,((1:Int),(fE,()))))]))) (ff x2 x3 x4 (aQ++([(KH,(cc,((1:Int),(fE,()))))])) xA P6 (W .i64 (Gb+1))) (none)))
def qq.wT(N:Nat)(ff:qq.fe)(x2:Int)(x3:aa)(x4:ag)(aQ:aD)(aP:aT)(cc:Int)(fE:Int)(xA:c3)(P6:Int)(Gb:Int):Option (aD×(Int)):=qq.qg N ff x2 x3 x4 aQ aP cc fE xA P6 Gb
def qq.pE(N:Nat)(m5:qq.wH)(ff:qq.fe)(x2:Int)(x3:aa)(x4:ag)(aQ:aD)(xA:c3)(P6:Int)(Gb:Int):Option (aD×(Int)):=
 cond (aG Gb P6) (cond (aI Gb (List.length xA)) ((Iz N (List.getD xA Gb.toNat bL)).bind fun r3=>(CV N x3.2.2.2.2.2.2.1).bind fun r4=>(CY N r3.1 r4).bind fun r5=>cond (bX r5 0) (ff x2 x3 x4 aQ xA P6 (W .i64 (Gb+1))) ((mo N x3 Gb).bind fun r7=>cond (aI 0 (List.length r7)) (cond (aI (List.getD r7 (0:Int).toNat (0:Int)) (List.length x4.2.2.2.2.1)) ((p8 N r3.1 (List.getD x4.2.2.2.2.1 (List.getD r7 (0:Int).toNat (0:Int)).toNat (0:Int))).bind fun r8=>(HS N r8.1).bind fun r9=>cond (!r9.2) (m5 x2 x3 x4 aQ (List.getD xA Gb.toNat bL) (List.getD r7 (0:Int).toNat (0:Int)) (1000000000:Int) xA P6 Gb) (cond (aG 1000000000 r9.1) (m5 x2 x3 x4 aQ (List.getD xA Gb.toNat bL) (List.getD r7 (0:Int).toNat (0:Int)) (1000000000:Int) xA P6 Gb) (m5 x2 x3 x4 aQ (List.getD xA Gb.toNat bL) (List.getD r7 (0:Int).toNat (0:Int)) r9.1 xA P6 Gb))) (none)) (none))) (none)) (some (aQ,(0:Int)))
def qq.l6(N:Nat):Nat→qq.fe
 |0,_,_,_,_,_,_,_=>none
 |n+1,x2,x3,x4,aQ,xA,P6,Gb=>qq.pE N (qq.wT N (qq.l6 N n)) (qq.l6 N n) x2 x3 x4 aQ xA P6 Gb
def qq.b(N:Nat)(rr:qq.fe)(a0:aa)(a1:ag)(a2:Int):Option (aD×(Int)):=
 (wq N a0 a1).bind fun r1=>cond (!aA r1.2 0) (some ([],(1:Int))) (cond (aG a2 1) (some ([],(1:Int))) (cond (aG 1099511627772 a2) (some ([],(1:Int))) (rr a2 a0 a1 ([]) r1.1 (List.length r1.1:Int) (0:Int))))
def qq(N:Nat)(a0:aa)(a1:ag)(a2:Int):Option (aD×(Int)):=qq.b N (qq.l6 N N) a0 a1 a2
def L7(N:Nat)(a0:Int):Option (Bool):=
 cond (bX 1 a0) (some (bX a0 1000000000)) (some false)
def F48(N:Nat)(a0:bp):Option (Bool):=
 cond (bX 1 a0.1) (cond (bX a0.1 1099511627776) (cond (bX 0 a0.2.1) (cond (aG a0.2.1 6) (cond (aA a0.2.2.1 1) ((L7 N a0.2.2.2.1).bind fun r1=>some r1) (cond (aA a0.2.2.1 2) ((L7 N a0.2.2.2.1).bind fun r2=>some r2) (some false))) (some false)) (some false)) (some false)) (some false)
abbrev eB.jq:=aU→Int→aj→Int→bY→Int→aU→Int→Int→Option aj
abbrev eB.bf:=aU→Int→aj→Int→Option aj
def eB.tJ(N:Nat)(bh:eB.bf)(mX:eB.jq)(x0:aU)(x1:Int)(x5:aj)(x6:Int)(x7:bY)(bn:Int)(fu:aU)(fE:Int)(ve:Int):Option aj:=
 cond (aG ve fE) (cond (aI ve (List.length fu)) (cond (!aA (((List.getD fu ve.toNat dT).2).1) x1) (mX x0 x1 x5 x6 x7 bn fu fE (W .i64 (ve+1))) (cond (!aA ((((List.getD fu ve.toNat dT).2).2).1) x6) (mX x0 x1 x5 x6 x7 bn fu fE (W .i64 (ve+1))) (cond (aA (((((List.getD fu ve.toNat dT).2).2).2).1) (1:Int)) (mX x0 x1 x5 x6 (x7.1,((W .i64 (x7.2.1+((((((List.getD fu ve.toNat dT).2).2).2).2).1))),x7.2.2)) bn fu fE (W .i64 (ve+1))) (mX x0 x1 x5 x6 (x7.1,(x7.2.1,((W .i64 (x7.2.2.1+((((((List.getD fu ve.toNat dT).2).2).2).2).1))),x7.2.2.2))) bn fu fE (W .i64 (ve+1)))))) (none)) (cond (aG 0 (W .i64 (x7.2.1+x7.2.2.1))) (cond (small (List.length x5+List.length ([x7]))) (bh x0 x1 (x5++([x7])) (W .i64 (bn+1))) (none)) (bh x0 x1 x5 (W .i64 (bn+1))))
def eB.l9(N:Nat)(bh:eB.bf):Nat→eB.jq
 |0,_,_,_,_,_,_,_,_,_=>none
 |n+1,x0,x1,x5,x6,x7,bn,fu,fE,ve=>eB.tJ N bh (eB.l9 N bh n) x0 x1 x5 x6 x7 bn fu fE ve
def eB.c7(N:Nat)(u2:eB.jq)(bh:eB.bf)(x0:aU)(x1:Int)(x5:aj)(bn:Int):Option aj:=
 cond (aG bn 6) (u2 x0 x1 x5 bn (bn,bL) bn x0 (List.length x0:Int) (0:Int)) (some x5)
def eB.l5(N:Nat):Nat→eB.bf
 |0,_,_,_,_=>none
 |n+1,x0,x1,x5,bn=>eB.c7 N (eB.l9 N (eB.l5 N n) N) (eB.l5 N n) x0 x1 x5 bn
def eB.b(N:Nat)(dw:eB.bf)(a0:aU)(a1:Int):Option aj:=
 (yn N a0).bind fun r1=>cond (!r1) (some ([])) (dw a0 a1 ([]) (0:Int))
def eB(N:Nat)(a0:aU)(a1:Int):Option aj:=eB.b N (eB.l5 N N) a0 a1
abbrev eP.Ms:=aj→cr→Int→Option aj
abbrev eP.adM:=aj→cr→Int→Option aj
abbrev eP.bT:=aj→cr→Int→Option aj
def eP.KB(N:Nat)(x0:aj)(x3:cr)(x5:Int):Option aj:=
 cond (aA x3.2.2.2.1 1) (cond (aI x5 (List.length x0)) (cond (aI x5 (List.length x0)) (some (List.set x0 x5.toNat ((List.getD x0 x5.toNat aM).1,((W .i64 ((((List.getD x0 x5.toNat aM).2).1)+x3.2.2.2.2.1)),((List.getD x0 x5.toNat aM).2).2)))) (none)) (none)) (cond (aI x5 (List.length x0)) (cond (aI x5 (List.length x0)) (some (List.set x0 x5.toNat ((List.getD x0 x5.toNat aM).1,(((List.getD x0 x5.toNat aM).2).1,((W .i64 (((((List.getD x0 x5.toNat aM).2).2).1)+x3.2.2.2.2.1)),(((List.getD x0 x5.toNat aM).2).2).2))))) (none)) (none))
def eP.j6(N:Nat)(x0:aj)(x3:cr)(x5:Int):Option aj:=eP.KB N x0 x3 x5
def eP.j4b(N:Nat)(xB:eP.Ms)(x0:aj)(x3:cr)(x5:Int):Option aj:=
 cond (aA x5 (List.length x0:Int)) ((gZ N x0 x5 ([(x3.2.2.1,bL)])).bind fun r4=>xB r4 x3 x5) (cond (aI x5 (List.length x0)) (cond (!aA ((List.getD x0 x5.toNat aM).1) x3.2.2.1) ((gZ N x0 x5 ([(x3.2.2.1,bL)])).bind fun gA=>xB gA x3 x5) (xB x0 x3 x5)) (none))
def eP.j4(N:Nat)(x0:aj)(x3:cr)(x5:Int):Option aj:=eP.j4b N (eP.j6 N) x0 x3 x5
def eP.dA(N:Nat)(Tn:eP.adM)(cS:eP.bT)(x0:aj)(x3:cr)(x5:Int):Option aj:=
 cond (aG x5 (List.length x0:Int)) (cond (aI x5 (List.length x0)) (cond (aG ((List.getD x0 x5.toNat aM).1) x3.2.2.1) (cS x0 x3 (W .i64 (x5+1))) (Tn x0 x3 x5)) (none)) (Tn x0 x3 x5)
def eP.l2(N:Nat):Nat→eP.bT
 |0,_,_,_=>none
 |n+1,x0,x3,x5=>eP.dA N (eP.j4 N) (eP.l2 N n) x0 x3 x5
def eP.b(N:Nat)(eI:eP.bT)(a0:aj)(a1:cr):Option aj:=
 eI a0 a1 (0:Int)
def eP(N:Nat)(a0:aj)(a1:cr):Option aj:=eP.b N (eP.l2 N N) a0 a1
abbrev mh.bT:=av→aa→av→Int→Int→Option (Bool)
def mh.dA(N:Nat)(cS:mh.bT)(x1:av)(x2:aa)(x7:av)(x8:Int)(x9:Int):Option (Bool):=
 cond (aG x9 x8) (cond (aI x9 (List.length x7)) (cond (aG ((List.getD x7 x9.toNat bL).1) (0:Int)) (some false) (cond (bX (List.length x2.1:Int) ((List.getD x7 x9.toNat bL).1)) (some false) (cond (aA (((List.getD x7 x9.toNat bL).2).1) (0:Int)) (some false) ((Lh N (((List.getD x7 x9.toNat bL).2).1)).bind fun r2=>cond (!r2) (some false) (cond (aG 0 x9) (let v3:Int:=W .i64 (x9-1);cond (aI v3 (List.length x1)) (cond (bX ((List.getD x7 x9.toNat bL).1) ((List.getD x1 v3.toNat bL).1)) (some false) (cS x1 x2 x7 x8 (W .i64 (x9+1)))) (none)) (cS x1 x2 x7 x8 (W .i64 (x9+1)))))))) (none)) ((wQ N x2).bind fun r6=>some r6)
def mh.l2(N:Nat):Nat→mh.bT
 |0,_,_,_,_,_=>none
 |n+1,x1,x2,x7,x8,x9=>mh.dA N (mh.l2 N n) x1 x2 x7 x8 x9
def mh.b(N:Nat)(eI:mh.bT)(a0:aa)(a1:av):Option (Bool):=
 eI a1 a0 a1 (List.length a1:Int) (0:Int)
def mh(N:Nat)(a0:aa)(a1:av):Option (Bool):=mh.b N (mh.l2 N N) a0 a1
abbrev my.bT:=aj→aa→aj→Int→Int→Option (Bool)
def my.dA(N:Nat)(cS:my.bT)(x1:aj)(x2:aa)(x7:aj)(x8:Int)(x9:Int):Option (Bool):=
 cond (aG x9 x8) (cond (aI x9 (List.length x7)) (cond (aG ((List.getD x7 x9.toNat aM).1) (0:Int)) (some false) (cond (bX (List.length x2.1:Int) ((List.getD x7 x9.toNat aM).1)) (some false) (cond (aG (((List.getD x7 x9.toNat aM).2).1) (0:Int)) (some false) (cond (aG 33000000000 (((List.getD x7 x9.toNat aM).2).1)) (some false) (cond (aG ((((List.getD x7 x9.toNat aM).2).2).1) (0:Int)) (some false) (cond (aG 33000000000 ((((List.getD x7 x9.toNat aM).2).2).1)) (some false) (cond (aA (((List.getD x7 x9.toNat aM).2).1) (0:Int)) (cond (aA ((((List.getD x7 x9.toNat aM).2).2).1) (0:Int)) (some false) (cond (aG 0 x9) (let v2:Int:=W .i64 (x9-1);cond (aI v2 (List.length x1)) (cond (bX ((List.getD x7 x9.toNat aM).1) ((List.getD x1 v2.toNat aM).1)) (some false) (cS x1 x2 x7 x8 (W .i64 (x9+1)))) (none)) (cS x1 x2 x7 x8 (W .i64 (x9+1))))) (cond (aG 0 x9) (let v5:Int:=W .i64 (x9-1);cond (aI v5 (List.length x1)) (cond (bX ((List.getD x7 x9.toNat aM).1) ((List.getD x1 v5.toNat aM).1)) (some false) (cS x1 x2 x7 x8 (W .i64 (x9+1)))) (none)) (cS x1 x2 x7 x8 (W .i64 (x9+1))))))))))) (none)) ((wQ N x2).bind fun r8=>some r8)
def my.l2(N:Nat):Nat→my.bT
 |0,_,_,_,_,_=>none
 |n+1,x1,x2,x7,x8,x9=>my.dA N (my.l2 N n) x1 x2 x7 x8 x9
def my.b(N:Nat)(eI:my.bT)(a0:aa)(a1:aj):Option (Bool):=
 eI a1 a0 a1 (List.length a1:Int) (0:Int)
def my(N:Nat)(a0:aa)(a1:aj):Option (Bool):=my.b N (my.l2 N N) a0 a1
abbrev eU.ew:=Int→aT→Int→Int→Int→aj→Int→Int→Option (aT×(Int))
abbrev eU.dq:=aj→Int→aT→Int→Int→Int→av→Int→Int→Option (aT×(Int))
def eU.kt(N:Nat)(fF:eU.ew)(x3:Int)(x8:aT)(aQ:Int)(aK:Int)(aP:Int)(Cv:aj)(P5:Int)(z5:Int):Option (aT×(Int)):=
 cond (aG z5 P5) (cond (aI z5 (List.length Cv)) (cond (aA ((List.getD Cv z5.toNat aM).1) x3) (fF x3 x8 aQ (((List.getD Cv z5.toNat aM).2).1) ((((List.getD Cv z5.toNat aM).2).2).1) Cv P5 (W .i64 (z5+1))) (fF x3 x8 aQ aK aP Cv P5 (W .i64 (z5+1)))) (none)) ((CV N aQ).bind fun r9=>(CV N aK).bind fun gA=>(Ik N r9 gA).bind fun jV=>(CV N aQ).bind fun iX=>(CV N aP).bind fun jE=>(LX N iX jE).bind fun mF=>(Iz N jV.1).bind fun ob=>(Iz N mF.1).bind fun ri=>(CY N ob.1 ri.1).bind fun rO=>cond (aG rO 0) (some (ri.1,(0:Int))) (some (ob.1,(0:Int))))
def eU.mi(N:Nat):Nat→eU.ew
 |0,_,_,_,_,_,_,_,_=>none
 |n+1,x3,x8,aQ,aK,aP,Cv,P5,z5=>eU.kt N (eU.mi N n) x3 x8 aQ aK aP Cv P5 z5
def eU.mE(N:Nat)(qk:eU.ew)(df:eU.dq)(x2:aj)(x3:Int)(x8:aT)(aQ:Int)(aK:Int)(aP:Int)(x44:av)(x45:Int)(x46:Int):Option (aT×(Int)):=
 cond (aG x46 x45) (cond (aI x46 (List.length x44)) (cond (aA ((List.getD x44 x46.toNat bL).1) x3) (df x2 x3 x8 (((List.getD x44 x46.toNat bL).2).1) aK aP x44 x45 (W .i64 (x46+1))) (df x2 x3 x8 aQ aK aP x44 x45 (W .i64 (x46+1)))) (none)) (qk x3 x8 aQ aK aP x2 (List.length x2:Int) (0:Int))
def eU.l7(N:Nat):Nat→eU.dq
 |0,_,_,_,_,_,_,_,_,_=>none
 |n+1,x2,x3,x8,aQ,aK,aP,x44,x45,x46=>eU.mE N (eU.mi N N) (eU.l7 N n) x2 x3 x8 aQ aK aP x44 x45 x46
def eU.b(N:Nat)(pJ:eU.dq)(a0:aa)(a1:av)(a2:aj)(a3:Int):Option (aT×(Int)):=
 (mh N a0 a1).bind fun r1=>cond (!r1) (some (bL,(1:Int))) ((my N a0 a2).bind fun r2=>cond (!r2) (some (bL,(1:Int))) (cond (aG a3 0) (some (bL,(3:Int))) (cond (bX (List.length a0.1:Int) a3) (some (bL,(3:Int))) (pJ a2 a3 bL (0:Int) (0:Int) (0:Int) a1 (List.length a1:Int) (0:Int)))))
def eU(N:Nat)(a0:aa)(a1:av)(a2:aj)(a3:Int):Option (aT×(Int)):=eU.b N (eU.l7 N N) a0 a1 a2 a3
def VX(N:Nat)(a0:aT)(a1:Int):Option (aT×(Bool)):=
 (RC N a0).bind fun r1=>(F96 N a1).bind fun r2=>(OO N r1.2 r2).bind fun r3=>(OO N r1.1 r2).bind fun r4=>(oT N r4.2 r3.1 (0:Int)).bind fun r5=>cond (!aA (W .u64 (r4.1+r5.2)) (0:Int)) (some (bL,false)) ((mK N (!(jT .bool (aG a0.1 0) (aG a1 0))) r5.1 r3.2).bind fun r7=>some (r7.1,r7.2))
abbrev nq.bf:=av→aj→aa→aT→c3→aD→Int→Int→Option (aT×(Int))
def nq.c7(N:Nat)(bh:nq.bf)(x1:av)(x2:aj)(x3:aa)(x6:aT)(x8:c3)(NV:aD)(vf:Int)(Ex:Int):Option (aT×(Int)):=
 cond (aG Ex vf) (cond (aI Ex (List.length NV)) ((eU N x3 x1 x2 Ex).bind fun r4=>(VX N r4.1 ((((List.getD NV Ex.toNat aJ).2).2).1)).bind fun r5=>cond (small (List.length x8+List.length ([r5.1]))) (bh x1 x2 x3 x6 (x8++([r5.1])) NV vf (W .i64 (Ex+1))) (none)) (none)) ((jK N x8).bind fun r8=>some (r8.1,(0:Int)))
def nq.l5(N:Nat):Nat→nq.bf
 |0,_,_,_,_,_,_,_,_=>none
 |n+1,x1,x2,x3,x6,x8,NV,vf,Ex=>nq.c7 N (nq.l5 N n) x1 x2 x3 x6 x8 NV vf Ex
def nq.b(N:Nat)(dw:nq.bf)(a0:aa)(a1:av)(a2:aj):Option (aT×(Int)):=
 (mh N a0 a1).bind fun r1=>cond (!r1) (some (bL,(1:Int))) ((my N a0 a2).bind fun r2=>cond (!r2) (some (bL,(1:Int))) (dw a1 a2 a0 bL ([]) a0.1 (List.length a0.1:Int) (0:Int)))
def nq(N:Nat)(a0:aa)(a1:av)(a2:aj):Option (aT×(Int)):=nq.b N (nq.l5 N N) a0 a1 a2
def SC(N:Nat)(a0:cr)(a1:Int):Option (aT×(Int)):=
 (OV N a0).bind fun r1=>cond (!r1) (some (bL,(1:Int))) ((Vp N a1).bind fun r2=>cond (!r2) (some (bL,(1:Int))) ((CU N a0.2.2.2.2.1 (W .i64 (a0.2.2.2.2.2.1-a1))).bind fun r4=>cond (aA a0.2.2.2.1 2) ((CU N a0.2.2.2.2.1 (W .i64 (a1-a0.2.2.2.2.2.1))).bind fun r6=>(Qp N r6).bind fun r7=>cond (aG r7 0) (some (bL,(0:Int))) (some (r6,(0:Int)))) ((Qp N r4).bind fun r8=>cond (aG r8 0) (some (bL,(0:Int))) (some (r4,(0:Int))))))
abbrev mj.aY:=Int→Int→aj→Int→Int→Option (Int)
def mj.cD(N:Nat)(bA:mj.aY)(x1:Int)(x2:Int)(aP:aj)(bn:Int)(bu:Int):Option (Int):=
 cond (aG bu bn) (cond (aI bu (List.length aP)) (cond (aA ((List.getD aP bu.toNat aM).1) x1) (cond (aA (((List.getD aP bu.toNat aM).2).1) x2) (some ((((List.getD aP bu.toNat aM).2).2).1)) (bA x1 x2 aP bn (W .i64 (bu+1)))) (bA x1 x2 aP bn (W .i64 (bu+1)))) (none)) (some (0:Int))
def mj.l4(N:Nat):Nat→mj.aY
 |0,_,_,_,_,_=>none
 |n+1,x1,x2,aP,bn,bu=>mj.cD N (mj.l4 N n) x1 x2 aP bn bu
def mj.b(N:Nat)(c6:mj.aY)(a0:aj)(a1:Int)(a2:Int):Option (Int):=
 (wR N a0).bind fun r1=>cond (!r1) (some (0:Int)) (c6 a1 a2 a0 (List.length a0:Int) (0:Int))
def mj(N:Nat)(a0:aj)(a1:Int)(a2:Int):Option (Int):=mj.b N (mj.l4 N N) a0 a1 a2
def V0(N:Nat)(a0:Int)(a1:aT):Option (Bool):=
 (CV N a0).bind fun r1=>(CY N r1 a1).bind fun r2=>some (bX 0 r2)
def F50(N:Nat)(a0:aa)(a1:ag)(a2:cr):Option (Int):=
 (iz N a0 a1).bind fun r1=>cond (!r1) (some (1:Int)) ((OV N a2).bind fun r2=>cond (!r2) (some (1:Int)) ((lj N a1.2.1 a2.2.1).bind fun r3=>cond (!r3.2) (some (3:Int)) ((vR N a1.1 r3.1.2.1).bind fun r4=>cond (!aA r4 1) (some (7:Int)) (cond (bX (List.length a0.1:Int) a2.2.2.1) (some (3:Int)) ((lx N a1.2.2.2.1 a2.2.1).bind fun r5=>(eB N a1.2.2.2.2.2.1 a2.2.1).bind fun r6=>(eP N r6 a2).bind fun r7=>(eU N a0 r5 r7 a2.2.2.1).bind fun r8=>(CV N r3.1.2.2.2.1).bind fun r9=>(CY N r8.1 r9).bind fun gA=>cond (aG 0 gA) (some (9:Int)) ((nq N a0 r5 r7).bind fun jV=>cond (aI a2.2.2.1 (List.length a1.2.2.2.2.1)) ((SC N a2 (List.getD a1.2.2.2.2.1 a2.2.2.1.toNat (0:Int))).bind fun iX=>(Ik N jV.1 iX.1).bind fun jE=>(mj N a1.2.2.1 (5:Int) a2.2.1).bind fun mF=>(V0 N mF jE.1).bind fun ob=>cond (!ob) (some (10:Int)) (some (0:Int))) (none)))))))
abbrev ly.bT:=gk→(List (Int))→Int→Option (Bool)
def ly.dA(N:Nat)(cS:ly.bT)(x1:gk)(x9:List (Int))(aQ:Int):Option (Bool):=
 cond (aG aQ 2) (cond (aI aQ 2) (cond (aG (List.getD x9 aQ.toNat (0:Int)) (0:Int)) (some false) (cond (aG 24 (List.getD x9 aQ.toNat (0:Int))) (some false) (cS x1 x9 (W .i64 (aQ+1))))) (none)) (cond (!aA x1.1 x1.2.1) (cond (bX 0 x1.2.2.1) (cond (aG x1.2.2.1 6) (cond (bX 1 x1.2.2.2.1) (cond (bX x1.2.2.2.1 1000000000) ((Vp N x1.2.2.2.2.1).bind fun r4=>some r4) (some false)) (some false)) (some false)) (some false)) (some false))
def ly.l2(N:Nat):Nat→ly.bT
 |0,_,_,_=>none
 |n+1,x1,x9,aQ=>ly.dA N (ly.l2 N n) x1 x9 aQ
def ly.b(N:Nat)(eI:ly.bT)(a0:gk):Option (Bool):=
 eI a0 (List.set (List.set (List.replicate 2 (0:Int)) 0 a0.1) 1 a0.2.1) (0:Int)
def ly(N:Nat)(a0:gk):Option (Bool):=ly.b N (ly.l2 N N) a0
def adn(N:Nat)(a0:gk):Option (Bool):=
 (ly N a0).bind fun r1=>some (!r1)
abbrev oM.bT:=aZ→Unit→Int→Int→Option (Int)
def oM.dA(N:Nat)(cS:oM.bT)(x0:aZ)(x1:Unit)(x7:Int)(x8:Int):Option (Int):=
 cond (aG x8 x7) (cond (aI x8 (List.length x0)) ((adn N (List.getD x0 x8.toNat dX)).bind fun r2=>cond (r2) (some x8) (cS x0 () x7 (W .i64 (x8+1)))) (none)) (some (-1:Int))
def oM.l2(N:Nat):Nat→oM.bT
 |0,_,_,_,_=>none
 |n+1,x0,x1,x7,x8=>oM.dA N (oM.l2 N n) x0 x1 x7 x8
def oM.b(N:Nat)(eI:oM.bT)(a0:aZ)(a1:Unit):Option (Int):=
 eI a0 () (List.length a0:Int) (0:Int)
def oM(N:Nat)(a0:aZ)(a1:Unit):Option (Int):=oM.b N (oM.l2 N N) a0 a1
def VJ(N:Nat)(a0:aZ)(a1:Unit):Option (Bool):=
 (oM N a0 ()).bind fun r1=>some (bX 0 r1)
def Sc(N:Nat)(a0:Int)(a1:aT):Option pg:=
 cond (aA a0 0) (some ((2:Int),((0:Int),(a1,())))) (some ((5:Int),(a0,(a1,()))))
def Sd(N:Nat)(a0:gk)(a1:Int):Option (cI×(Int)):=
 (ly N a0).bind fun r1=>cond (!r1) (some ([],(1:Int))) ((Vp N a1).bind fun r2=>cond (!r2) (some ([],(1:Int))) (cond (aA a1 a0.2.2.2.2.1) (some ([],(0:Int))) ((CU N a0.2.2.2.1 (W .i64 (a1-a0.2.2.2.2.1))).bind fun r4=>(Sc N a0.1 r4).bind fun r5=>(CU N a0.2.2.2.1 (W .i64 (a0.2.2.2.2.1-a1))).bind fun r7=>(Sc N a0.2.1 r7).bind fun r8=>some ([r5,r8],(0:Int)))))
def VF(N:Nat)(a0:ag):Option ag:=
 (kU N a0.1).bind fun r1=>(kU N a0.2.1).bind fun r2=>(kU N a0.2.2.1).bind fun r3=>(kU N a0.2.2.2.1).bind fun r4=>(kU N a0.2.2.2.2.1).bind fun r5=>(kU N a0.2.2.2.2.2.1).bind fun r6=>some (r1,(r2,(r3,(r4,(r5,(r6,()))))))
abbrev eA.fe:=aj→Int→c3→Int→aj→Int→Int→Option (Bool)
abbrev eA.bT:=aj→Int→Option (Bool)
def eA.pE(N:Nat)(cS:eA.bT)(ff:eA.fe)(x0:aj)(x3:Int)(x4:c3)(x9:Int)(aP:aj)(bn:Int)(bu:Int):Option (Bool):=
 cond (aG bu bn) (cond (aI bu (List.length aP)) (cond (aA (((List.getD aP bu.toNat aM).2).1) x3) ((CV N ((((List.getD aP bu.toNat aM).2).2).1)).bind fun r3=>cond (small (List.length x4+List.length ([r3]))) (ff x0 x3 (x4++([r3])) x9 aP bn (W .i64 (bu+1))) (none)) (ff x0 x3 x4 x9 aP bn (W .i64 (bu+1)))) (none)) ((jK N x4).bind fun r7=>cond (!r7.2) (some false) ((Qp N r7.1).bind fun r8=>cond (!aA r8 0) (some false) (cS x0 (W .i64 (x9+1)))))
def eA.l6(N:Nat)(cS:eA.bT):Nat→eA.fe
 |0,_,_,_,_,_,_,_=>none
 |n+1,x0,x3,x4,x9,aP,bn,bu=>eA.pE N cS (eA.l6 N cS n) x0 x3 x4 x9 aP bn bu
def eA.dA(N:Nat)(rr:eA.fe)(cS:eA.bT)(x0:aj)(x9:Int):Option (Bool):=
 cond (aG x9 6) (rr x0 x9 ([]) x9 x0 (List.length x0:Int) (0:Int)) (some true)
def eA.l2(N:Nat):Nat→eA.bT
 |0,_,_=>none
 |n+1,x0,x9=>eA.dA N (eA.l6 N (eA.l2 N n) N) (eA.l2 N n) x0 x9
def eA.b(N:Nat)(eI:eA.bT)(a0:aj):Option (Bool):=
 eI a0 (0:Int)
def eA(N:Nat)(a0:aj):Option (Bool):=eA.b N (eA.l2 N N) a0
def Vu(N:Nat)(a0:aj):Option aj:=
 cond (gH 0 (List.length a0:Int) (List.length a0:Int) (List.length a0:Int)) (some (List.drop (0:Int).toNat (List.take (List.length a0:Int).toNat a0))) (none)
abbrev bH.ajg:=aj→aj→bY→Int→aj→Int→Int→Option (aj×(Int))
abbrev bH.jA:=aj→aj→bY→Int→aj→Int→Int→Option (aj×(Int))
abbrev bH.Ts:=aj→aj→bY→c3→aj→Int→Int→aj→Int→Int→Option (aj×(Int))
abbrev bH.DM:=aj→aj→aj→Int→Int→Option (aj×(Int))
abbrev bH.ew:=aj→aj→aj→Int→Int→Option (aj×(Int))
abbrev bH.aY:=aj→aj→aj→Int→Int→Option (aj×(Int))
def bH.adh(N:Nat)(fF:bH.ew)(x1:aj)(x8:aj)(aQ:bY)(aK:Int)(I5:aj)(KI:Int)(Gx:Int):Option (aj×(Int)):=
 cond (aA aK (List.length x8:Int)) ((gZ N x8 aK ([(aQ.1,(aQ.2.1,((0:Int),())))])).bind fun jE=>fF x1 jE I5 KI (W .i64 (Gx+1))) (cond (aI aK (List.length x8)) ((OU N aQ.1 aQ.2.1 (List.getD x8 aK.toNat aM)).bind fun ob=>cond (!aA ob 0) ((gZ N x8 aK ([(aQ.1,(aQ.2.1,((0:Int),())))])).bind fun ri=>fF x1 ri I5 KI (W .i64 (Gx+1))) (fF x1 x8 I5 KI (W .i64 (Gx+1)))) (none))
def bH.j18(N:Nat)(fF:bH.ew)(x1:aj)(x8:aj)(aQ:bY)(aK:Int)(I5:aj)(KI:Int)(Gx:Int):Option (aj×(Int)):=bH.adh N fF x1 x8 aQ aK I5 KI Gx
def bH.sC(N:Nat)(abw:bH.ajg)(fF:bH.ew)(kS:bH.jA)(x1:aj)(x8:aj)(aQ:bY)(aK:Int)(I5:aj)(KI:Int)(Gx:Int):Option (aj×(Int)):=
 cond (aG aK (List.length x8:Int)) (cond (aI aK (List.length x8)) ((OU N aQ.1 aQ.2.1 (List.getD x8 aK.toNat aM)).bind fun gA=>cond (aG 0 gA) (kS x1 x8 aQ (W .i64 (aK+1)) I5 KI Gx) (abw x1 x8 aQ aK I5 KI Gx)) (none)) (abw x1 x8 aQ aK I5 KI Gx)
def bH.tK(N:Nat)(fF:bH.ew):Nat→bH.jA
 |0,_,_,_,_,_,_,_=>none
 |n+1,x1,x8,aQ,aK,I5,KI,Gx=>bH.sC N (bH.j18 N fF) fF (bH.tK N fF n) x1 x8 aQ aK I5 KI Gx
def bH.Vv(N:Nat)(Ey:bH.DM)(Tt:bH.Ts)(x1:aj)(aP:aj)(bu:bY)(cc:c3)(wI:aj)(zr:Int)(oO:Int)(Gc:aj)(P7:Int)(Da:Int):Option (aj×(Int)):=
 cond (aG Da P7) (cond (aI Da (List.length Gc)) (cond (aA ((List.getD Gc Da.toNat aM).1) bu.1) (cond (aA (((List.getD Gc Da.toNat aM).2).1) bu.2.1) ((CV N ((((List.getD Gc Da.toNat aM).2).2).1)).bind fun B4=>cond (small (List.length cc+List.length ([B4]))) (Tt x1 aP bu (cc++([B4])) wI zr oO Gc P7 (W .i64 (Da+1))) (none)) (Tt x1 aP bu cc wI zr oO Gc P7 (W .i64 (Da+1)))) (Tt x1 aP bu cc wI zr oO Gc P7 (W .i64 (Da+1)))) (none)) ((jK N cc).bind fun r28=>(HS N r28.1).bind fun Ez=>cond (!Ez.2) (some (aX,(2:Int))) ((Lh N Ez.1).bind fun Mt=>cond (!Mt) (some (aX,(2:Int))) (cond (!aA Ez.1 0) (cond (small (List.length aP+List.length ([(bu.1,(bu.2.1,(Ez.1,())))]))) (Ey x1 (aP++([(bu.1,(bu.2.1,(Ez.1,())))])) wI zr (W .i64 (oO+1))) (none)) (Ey x1 aP wI zr (W .i64 (oO+1))))))
def bH.l27(N:Nat)(Ey:bH.DM):Nat→bH.Ts
 |0,_,_,_,_,_,_,_,_,_,_=>none
 |n+1,x1,aP,bu,cc,wI,zr,oO,Gc,P7,Da=>bH.Vv N Ey (bH.l27 N Ey n) x1 aP bu cc wI zr oO Gc P7 Da
def bH.Vx(N:Nat)(ajh:bH.Ts)(Ey:bH.DM)(x1:aj)(aP:aj)(wI:aj)(zr:Int)(oO:Int):Option (aj×(Int)):=
 cond (aG oO zr) (cond (aI oO (List.length wI)) ((CV N ((((List.getD wI oO.toNat aM).2).2).1)).bind fun KG=>ajh x1 aP (List.getD wI oO.toNat aM) ([KG]) wI zr oO x1 (List.length x1:Int) (0:Int)) (none)) ((Vu N aP).bind fun Tu=>some (Tu,(0:Int)))
def bH.Vw(N:Nat):Nat→bH.DM
 |0,_,_,_,_,_=>none
 |n+1,x1,aP,wI,zr,oO=>bH.Vx N (bH.l27 N (bH.Vw N n) N) (bH.Vw N n) x1 aP wI zr oO
def bH.kt(N:Nat)(B6:bH.jA)(aji:bH.DM)(fF:bH.ew)(x1:aj)(x8:aj)(I5:aj)(KI:Int)(Gx:Int):Option (aj×(Int)):=
 cond (aG Gx KI) (cond (aI Gx (List.length I5)) (B6 x1 x8 (List.getD I5 Gx.toNat aM) (0:Int) I5 KI Gx) (none)) (cond (gg 0 (List.length x8:Int)) (aji x1 (List.replicate (0:Int).toNat aM) x8 (List.length x8:Int) (0:Int)) (none))
def bH.mi(N:Nat):Nat→bH.ew
 |0,_,_,_,_,_=>none
 |n+1,x1,x8,I5,KI,Gx=>bH.kt N (bH.tK N (bH.mi N n) N) (bH.Vw N N) (bH.mi N n) x1 x8 I5 KI Gx
def bH.cD(N:Nat)(qk:bH.ew)(bA:bH.aY)(x0:aj)(x1:aj)(vf:aj)(Ex:Int)(xC:Int):Option (aj×(Int)):=
 cond (aG xC Ex) (cond (aI xC (List.length vf)) ((RE N ((List.getD vf xC.toNat aM).1) (((List.getD vf xC.toNat aM).2).1)).bind fun r3=>cond (!r3) (some (aX,(1:Int))) ((Lh N ((((List.getD vf xC.toNat aM).2).2).1)).bind fun r4=>cond (!r4) (some (aX,(1:Int))) (bA x0 x1 vf Ex (W .i64 (xC+1))))) (none)) ((eA N x1).bind fun r6=>cond (!r6) (some (aX,(1:Int))) ((kU N x0).bind fun r7=>qk x1 r7 x1 (List.length x1:Int) (0:Int)))
def bH.l4(N:Nat):Nat→bH.aY
 |0,_,_,_,_,_=>none
 |n+1,x0,x1,vf,Ex,xC=>bH.cD N (bH.mi N N) (bH.l4 N n) x0 x1 vf Ex xC
def bH.b(N:Nat)(c6:bH.aY)(a0:aj)(a1:aj):Option (aj×(Int)):=
 (kM N a0).bind fun r1=>cond (!r1) (some (aX,(1:Int))) (cond (aG 400 (List.length a1:Int)) (some (aX,(1:Int))) (c6 a0 a1 a1 (List.length a1:Int) (0:Int)))
def bH(N:Nat)(a0:aj)(a1:aj):Option (aj×(Int)):=bH.b N (bH.l4 N N) a0 a1
def adj(N:Nat)(a0:aj):Option aj:=
 cond (gH 0 (List.length a0:Int) (List.length a0:Int) (List.length a0:Int)) (some (List.drop (0:Int).toNat (List.take (List.length a0:Int).toNat a0))) (none)
abbrev bI.To:=cI→aj→pg→Int→cI→Int→Int→Option (aj×(Int))
abbrev bI.B8:=cI→aj→pg→Int→cI→Int→Int→Option (aj×(Int))
abbrev bI.B9:=cI→aj→bY→c3→aj→Int→Int→cI→Int→Int→Option (aj×(Int))
abbrev bI.DT:=cI→aj→aj→Int→Int→Option (aj×(Int))
abbrev bI.jA:=cI→aj→cI→Int→Int→Option (aj×(Int))
abbrev bI.bf:=aj→cI→c3→cI→Int→Int→Option (aj×(Int))
def bI.K9(N:Nat)(kS:bI.jA)(x1:cI)(aK:aj)(bn:pg)(bu:Int)(rR:cI)(Db:Int)(rG:Int):Option (aj×(Int)):=
 cond (aA bu (List.length aK:Int)) ((gZ N aK bu ([(bn.1,(bn.2.1,((0:Int),())))])).bind fun ob=>kS x1 ob rR Db (W .i64 (rG+1))) (cond (aI bu (List.length aK)) ((Lf N bn.1 bn.2.1 (List.getD aK bu.toNat aM)).bind fun rO=>cond (!aA rO 0) ((gZ N aK bu ([(bn.1,(bn.2.1,((0:Int),())))])).bind fun uk=>kS x1 uk rR Db (W .i64 (rG+1))) (kS x1 aK rR Db (W .i64 (rG+1)))) (none))
def bI.Qm(N:Nat)(kS:bI.jA)(x1:cI)(aK:aj)(bn:pg)(bu:Int)(rR:cI)(Db:Int)(rG:Int):Option (aj×(Int)):=bI.K9 N kS x1 aK bn bu rR Db rG
def bI.Lu(N:Nat)(Ew:bI.To)(kS:bI.jA)(Tv:bI.B8)(x1:cI)(aK:aj)(bn:pg)(bu:Int)(rR:cI)(Db:Int)(rG:Int):Option (aj×(Int)):=
 cond (aG bu (List.length aK:Int)) (cond (aI bu (List.length aK)) ((Lf N bn.1 bn.2.1 (List.getD aK bu.toNat aM)).bind fun iX=>cond (aG 0 iX) (Tv x1 aK bn (W .i64 (bu+1)) rR Db rG) (Ew x1 aK bn bu rR Db rG)) (none)) (Ew x1 aK bn bu rR Db rG)
def bI.O7(N:Nat)(kS:bI.jA):Nat→bI.B8
 |0,_,_,_,_,_,_,_=>none
 |n+1,x1,aK,bn,bu,rR,Db,rG=>bI.Lu N (bI.Qm N kS) kS (bI.O7 N kS n) x1 aK bn bu rR Db rG
def bI.H8(N:Nat)(EA:bI.DT)(yM:bI.B9)(x1:cI)(cc:aj)(cV:bY)(fu:c3)(wJ:aj)(zs:Int)(u5:Int)(Dc:cI)(P8:Int)(Ca:Int):Option (aj×(Int)):=
 cond (aG Ca P8) (cond (aI Ca (List.length Dc)) (cond (aA ((List.getD Dc Ca.toNat ((0:Int),((0:Int),(bL,())))).1) cV.1) (cond (aA (((List.getD Dc Ca.toNat ((0:Int),((0:Int),(bL,())))).2).1) cV.2.1) (cond (small (List.length fu+List.length ([(((List.getD Dc Ca.toNat ((0:Int),((0:Int),(bL,())))).2).2).1]))) (yM x1 cc cV (fu++([(((List.getD Dc Ca.toNat ((0:Int),((0:Int),(bL,())))).2).2).1])) wJ zs u5 Dc P8 (W .i64 (Ca+1))) (none)) (yM x1 cc cV fu wJ zs u5 Dc P8 (W .i64 (Ca+1)))) (yM x1 cc cV fu wJ zs u5 Dc P8 (W .i64 (Ca+1)))) (none)) ((jK N fu).bind fun Ez=>(HS N Ez.1).bind fun Mt=>cond (!Ez.2) (some (aX,(2:Int))) (cond (!Mt.2) (some (aX,(2:Int))) (cond (!aA Mt.1 0) (cond (small (List.length cc+List.length ([(cV.1,(cV.2.1,(Mt.1,())))]))) (EA x1 (cc++([(cV.1,(cV.2.1,(Mt.1,())))])) wJ zs (W .i64 (u5+1))) (none)) (EA x1 cc wJ zs (W .i64 (u5+1))))))
def bI.Lt(N:Nat)(EA:bI.DT):Nat→bI.B9
 |0,_,_,_,_,_,_,_,_,_,_=>none
 |n+1,x1,cc,cV,fu,wJ,zs,u5,Dc,P8,Ca=>bI.H8 N EA (bI.Lt N EA n) x1 cc cV fu wJ zs u5 Dc P8 Ca
def bI.VB(N:Nat)(Tw:bI.B9)(EA:bI.DT)(x1:cI)(cc:aj)(wJ:aj)(zs:Int)(u5:Int):Option (aj×(Int)):=
 cond (aG u5 zs) (cond (aI u5 (List.length wJ)) ((CV N ((((List.getD wJ u5.toNat aM).2).2).1)).bind fun B4=>Tw x1 cc (List.getD wJ u5.toNat aM) ([B4]) wJ zs u5 x1 (List.length x1:Int) (0:Int)) (none)) ((adj N cc).bind fun Tu=>some (Tu,(0:Int)))
def bI.VA(N:Nat):Nat→bI.DT
 |0,_,_,_,_,_=>none
 |n+1,x1,cc,wJ,zs,u5=>bI.VB N (bI.Lt N (bI.VA N n) N) (bI.VA N n) x1 cc wJ zs u5
def bI.sC(N:Nat)(Tx:bI.B8)(ajj:bI.DT)(kS:bI.jA)(x1:cI)(aK:aj)(rR:cI)(Db:Int)(rG:Int):Option (aj×(Int)):=
 cond (aG rG Db) (cond (aI rG (List.length rR)) (Tx x1 aK (List.getD rR rG.toNat ((0:Int),((0:Int),(bL,())))) (0:Int) rR Db rG) (none)) (cond (gg 0 (List.length aK:Int)) (ajj x1 (List.replicate (0:Int).toNat aM) aK (List.length aK:Int) (0:Int)) (none))
def bI.tK(N:Nat):Nat→bI.jA
 |0,_,_,_,_,_=>none
 |n+1,x1,aK,rR,Db,rG=>bI.sC N (bI.O7 N (bI.tK N n) N) (bI.VA N N) (bI.tK N n) x1 aK rR Db rG
def bI.c7(N:Nat)(B6:bI.jA)(bh:bI.bf)(x0:aj)(x1:cI)(x6:c3)(x36:cI)(x37:Int)(xA:Int):Option (aj×(Int)):=
 cond (aG xA x37) (cond (aI xA (List.length x36)) ((Ld N ((List.getD x36 xA.toNat ((0:Int),((0:Int),(bL,())))).1) (((List.getD x36 xA.toNat ((0:Int),((0:Int),(bL,())))).2).1)).bind fun r4=>cond (!r4) (some (aX,(1:Int))) (cond (small (List.length x6+List.length ([(((List.getD x36 xA.toNat ((0:Int),((0:Int),(bL,())))).2).2).1]))) (bh x0 x1 (x6++([(((List.getD x36 xA.toNat ((0:Int),((0:Int),(bL,())))).2).2).1])) x36 x37 (W .i64 (xA+1))) (none))) (none)) ((jK N x6).bind fun r7=>cond (!r7.2) (some (aX,(1:Int))) ((Qp N r7.1).bind fun r8=>cond (!aA r8 0) (some (aX,(1:Int))) ((kU N x0).bind fun r9=>B6 x1 r9 x1 (List.length x1:Int) (0:Int))))
def bI.l5(N:Nat):Nat→bI.bf
 |0,_,_,_,_,_,_=>none
 |n+1,x0,x1,x6,x36,x37,xA=>bI.c7 N (bI.tK N N) (bI.l5 N n) x0 x1 x6 x36 x37 xA
def bI.b(N:Nat)(dw:bI.bf)(a0:aj)(a1:cI):Option (aj×(Int)):=
 (wR N a0).bind fun r1=>cond (!r1) (some (aX,(1:Int))) (cond (aG 400 (List.length a1:Int)) (some (aX,(1:Int))) (cond (gg 0 (List.length a1:Int)) (dw a0 a1 (List.replicate (0:Int).toNat bL) a1 (List.length a1:Int) (0:Int)) (none)))
def bI(N:Nat)(a0:aj)(a1:cI):Option (aj×(Int)):=bI.b N (bI.l5 N N) a0 a1
def F65(N:Nat)(a0:ag)(a1:aj)(a2:cI):Option (ag×(Int)):=
 (VF N a0).bind fun r1=>(bH N a0.2.2.2.1 a1).bind fun r2=>cond (!aA r2.2 0) (some ((bE,(cg,(aX,(aX,(cC,(cK,())))))),r2.2)) ((bI N a0.2.2.1 a2).bind fun r3=>cond (!aA r3.2 0) (some ((bE,(cg,(aX,(aX,(cC,(cK,())))))),r3.2)) (some ((r1.1,(r1.2.1,(r3.1,(r2.1,r1.2.2.2.2)))),(0:Int))))
abbrev fA.e7:=ag→ag→aj→cI→aZ→Int→Int→Option (ag×(Int))
abbrev fA.aY:=aZ→aa→ag→ag→aZ→Int→Int→Option (ag×(Int))
def fA.jh(N:Nat)(gV:fA.e7)(x4:ag)(x6:ag)(aQ:aj)(aK:cI)(rR:aZ)(Db:Int)(rG:Int):Option (ag×(Int)):=
 cond (aG rG Db) (cond (aI rG (List.length rR)) (let KH:Int:=W .i64 (0-(((((List.getD rR rG.toNat dX).2).2).2).1));cond (small (List.length aQ+List.length ([((List.getD rR rG.toNat dX).1,((((List.getD rR rG.toNat dX).2).2).1,(((((List.getD rR rG.toNat dX).2).2).2).1,()))),(((List.getD rR rG.toNat dX).2).1,((((List.getD rR rG.toNat dX).2).2).1,(KH,())))]))) (cond (aI ((((List.getD rR rG.toNat dX).2).2).1) (List.length x4.2.2.2.2.1)) ((Sd N (List.getD rR rG.toNat dX) (List.getD x4.2.2.2.2.1 ((((List.getD rR rG.toNat dX).2).2).1).toNat (0:Int))).bind fun mF=>cond (small (List.length aK+List.length mF.1)) (gV x4 x6 (aQ++([((List.getD rR rG.toNat dX).1,((((List.getD rR rG.toNat dX).2).2).1,(((((List.getD rR rG.toNat dX).2).2).2).1,()))),(((List.getD rR rG.toNat dX).2).1,((((List.getD rR rG.toNat dX).2).2).1,(KH,())))])) (aK++mF.1) rR Db (W .i64 (rG+1))) (none)) (none)) (none)) (none)) ((F65 N x4 aQ aK).bind fun rO=>some (rO.1,rO.2))
def fA.kk(N:Nat):Nat→fA.e7
 |0,_,_,_,_,_,_,_=>none
 |n+1,x4,x6,aQ,aK,rR,Db,rG=>fA.jh N (fA.kk N n) x4 x6 aQ aK rR Db rG
def fA.cD(N:Nat)(qm:fA.e7)(bA:fA.aY)(x2:aZ)(x3:aa)(x4:ag)(x6:ag)(vf:aZ)(Ex:Int)(xC:Int):Option (ag×(Int)):=
 cond (aG xC Ex) (cond (aI xC (List.length vf)) (cond (!aA ((List.getD vf xC.toNat dX).1) (0:Int)) ((Vt N x4 ((List.getD vf xC.toNat dX).1)).bind fun r4=>cond (!r4) (some ((bE,(cg,(aX,(aX,(cC,(cK,())))))),(3:Int))) (cond (!aA (((List.getD vf xC.toNat dX).2).1) (0:Int)) ((Vt N x4 (((List.getD vf xC.toNat dX).2).1)).bind fun r5=>cond (!r5) (some ((bE,(cg,(aX,(aX,(cC,(cK,())))))),(3:Int))) (cond (bX (List.length x3.1:Int) ((((List.getD vf xC.toNat dX).2).2).1)) (some ((bE,(cg,(aX,(aX,(cC,(cK,())))))),(3:Int))) (bA x2 x3 x4 x6 vf Ex (W .i64 (xC+1))))) (cond (bX (List.length x3.1:Int) ((((List.getD vf xC.toNat dX).2).2).1)) (some ((bE,(cg,(aX,(aX,(cC,(cK,())))))),(3:Int))) (bA x2 x3 x4 x6 vf Ex (W .i64 (xC+1)))))) (cond (!aA (((List.getD vf xC.toNat dX).2).1) (0:Int)) ((Vt N x4 (((List.getD vf xC.toNat dX).2).1)).bind fun r8=>cond (!r8) (some ((bE,(cg,(aX,(aX,(cC,(cK,())))))),(3:Int))) (cond (bX (List.length x3.1:Int) ((((List.getD vf xC.toNat dX).2).2).1)) (some ((bE,(cg,(aX,(aX,(cC,(cK,())))))),(3:Int))) (bA x2 x3 x4 x6 vf Ex (W .i64 (xC+1))))) (cond (bX (List.length x3.1:Int) ((((List.getD vf xC.toNat dX).2).2).1)) (some ((bE,(cg,(aX,(aX,(cC,(cK,())))))),(3:Int))) (bA x2 x3 x4 x6 vf Ex (W .i64 (xC+1)))))) (none)) (qm x4 x6 ([]) ([]) x2 (List.length x2:Int) (0:Int))
def fA.l4(N:Nat):Nat→fA.aY
 |0,_,_,_,_,_,_,_=>none
 |n+1,x2,x3,x4,x6,vf,Ex,xC=>fA.cD N (fA.kk N N) (fA.l4 N n) x2 x3 x4 x6 vf Ex xC
def fA.b(N:Nat)(c6:fA.aY)(a0:aa)(a1:ag)(a2:aZ):Option (ag×(Int)):=
 (iz N a0 a1).bind fun r1=>cond (!r1) (some ((bE,(cg,(aX,(aX,(cC,(cK,())))))),(1:Int))) (cond (aG 200 (List.length a2:Int)) (some ((bE,(cg,(aX,(aX,(cC,(cK,())))))),(1:Int))) ((VJ N a2 ()).bind fun r2=>cond (r2) (some ((bE,(cg,(aX,(aX,(cC,(cK,())))))),(1:Int))) (c6 a2 a0 a1 (bE,(cg,(aX,(aX,(cC,(cK,())))))) a2 (List.length a2:Int) (0:Int))))
def fA(N:Nat)(a0:aa)(a1:ag)(a2:aZ):Option (ag×(Int)):=fA.b N (fA.l4 N N) a0 a1 a2
abbrev BP.ajk:=Int→aa→ag→bp→ag→bp→gk→Option (ag×bp×(Int))
def BP.adt(N:Nat)(x4:Int)(x6:aa)(x7:ag)(x8:bp)(aP:ag)(bn:bp)(cV:gk):Option (ag×bp×(Int)):=
 (fA N x6 x7 ([cV])).bind fun r8=>cond (!aA r8.2 0) (some ((bE,(cg,(aX,(aX,(cC,(cK,())))))),aJ,r8.2)) (some (r8.1,(x8.1,(x8.2.1,(x8.2.2.1,((W .i64 (x8.2.2.2.1-x4)),x8.2.2.2.2)))),(0:Int)))
def BP.j12(N:Nat)(x4:Int)(x6:aa)(x7:ag)(x8:bp)(aP:ag)(bn:bp)(cV:gk):Option (ag×bp×(Int)):=BP.adt N x4 x6 x7 x8 aP bn cV
def BP.b(N:Nat)(abz:BP.ajk)(a0:aa)(a1:ag)(a2:bp)(a3:Int)(a4:Int)(a5:Int):Option (ag×bp×(Int)):=
 (iz N a0 a1).bind fun r1=>cond (!r1) (some ((bE,(cg,(aX,(aX,(cC,(cK,())))))),aJ,(1:Int))) ((F48 N a2).bind fun r2=>cond (!r2) (some ((bE,(cg,(aX,(aX,(cC,(cK,())))))),aJ,(1:Int))) ((L7 N a4).bind fun r3=>cond (!r3) (some ((bE,(cg,(aX,(aX,(cC,(cK,())))))),aJ,(1:Int))) ((Vp N a5).bind fun r4=>cond (!r4) (some ((bE,(cg,(aX,(aX,(cC,(cK,())))))),aJ,(1:Int))) (cond (aG a2.2.2.2.1 a4) (some ((bE,(cg,(aX,(aX,(cC,(cK,())))))),aJ,(9:Int))) ((F50 N a0 a1 (a2.1,(a3,(a2.2.1,((W .i64 ((3:Int)-a2.2.2.1)),(a4,(a5,()))))))).bind fun r6=>cond (!aA r6 0) (some ((bE,(cg,(aX,(aX,(cC,(cK,())))))),aJ,r6)) (cond (aA a2.2.2.1 1) (abz a4 a0 a1 a2 (bE,(cg,(aX,(aX,(cC,(cK,())))))) aJ ((0:Int),(a3,(a2.2.1,(a4,(a5,())))))) (abz a4 a0 a1 a2 (bE,(cg,(aX,(aX,(cC,(cK,())))))) aJ (a3,((0:Int),(a2.2.1,(a4,(a5,()))))))))))))
def BP(N:Nat)(a0:aa)(a1:ag)(a2:bp)(a3:Int)(a4:Int)(a5:Int):Option (ag×bp×(Int)):=BP.b N (BP.j12 N) a0 a1 a2 a3 a4 a5
abbrev vd.bT:=aj→Int→Option (Bool)
def vd.dA(N:Nat)(cS:vd.bT)(x0:aj)(x3:Int):Option (Bool):=
 cond (aG x3 (List.length x0:Int)) (cond (aI x3 (List.length x0)) (cond (aG ((List.getD x0 x3.toNat aM).1) (0:Int)) (some false) (cond (aG 24 ((List.getD x0 x3.toNat aM).1)) (some false) (cond (aG (((List.getD x0 x3.toNat aM).2).1) (0:Int)) (some false) (cond (bX 6 (((List.getD x0 x3.toNat aM).2).1)) (some false) (cond (aA ((((List.getD x0 x3.toNat aM).2).2).1) (0:Int)) (some false) (cond (aA ((((List.getD x0 x3.toNat aM).2).2).1) (-9223372036854775808:Int)) (some false) (cond (aG 0 x3) (let v2:Int:=W .i64 (x3-1);cond (aI v2 (List.length x0)) (cond (aG ((List.getD x0 x3.toNat aM).1) ((List.getD x0 v2.toNat aM).1)) (some false) (let v3:Int:=W .i64 (x3-1);cond (aI v3 (List.length x0)) (cond (aA ((List.getD x0 x3.toNat aM).1) ((List.getD x0 v3.toNat aM).1)) (let v4:Int:=W .i64 (x3-1);cond (aI v4 (List.length x0)) (cond (bX (((List.getD x0 x3.toNat aM).2).1) (((List.getD x0 v4.toNat aM).2).1)) (some false) (cS x0 (W .i64 (x3+1)))) (none)) (cS x0 (W .i64 (x3+1)))) (none))) (none)) (cS x0 (W .i64 (x3+1)))))))))) (none)) (some true)
def vd.l2(N:Nat):Nat→vd.bT
 |0,_,_=>none
 |n+1,x0,x3=>vd.dA N (vd.l2 N n) x0 x3
def vd.b(N:Nat)(eI:vd.bT)(a0:aj):Option (Bool):=
 eI a0 (0:Int)
def vd(N:Nat)(a0:aj):Option (Bool):=vd.b N (vd.l2 N N) a0
abbrev wS.aY:=aj→Int→Int→Int→Option (Int)
def wS.cD(N:Nat)(bA:wS.aY)(x0:aj)(x1:Int)(x2:Int)(x7:Int):Option (Int):=
 cond (aG x7 (List.length x0:Int)) (cond (aI x7 (List.length x0)) (cond (aA ((List.getD x0 x7.toNat aM).1) x1) (cond (aI x7 (List.length x0)) (cond (aA (((List.getD x0 x7.toNat aM).2).1) x2) (cond (aI x7 (List.length x0)) (some ((((List.getD x0 x7.toNat aM).2).2).1)) (none)) (bA x0 x1 x2 (W .i64 (x7+1)))) (none)) (bA x0 x1 x2 (W .i64 (x7+1)))) (none)) (some (0:Int))
def wS.l4(N:Nat):Nat→wS.aY
 |0,_,_,_,_=>none
 |n+1,x0,x1,x2,x7=>wS.cD N (wS.l4 N n) x0 x1 x2 x7
def wS.b(N:Nat)(c6:wS.aY)(a0:aj)(a1:Int)(a2:Int):Option (Int):=
 (vd N a0).bind fun r1=>cond (!r1) (some (0:Int)) (c6 a0 a1 a2 (0:Int))
def wS(N:Nat)(a0:aj)(a1:Int)(a2:Int):Option (Int):=wS.b N (wS.l4 N N) a0 a1 a2
def Le(N:Nat)(a0:Int)(a1:Int):Option (Bool):=
 cond (aA a0 1) (some (aA a1 0)) (cond (aA a0 2) (some (aA a1 0)) (cond (aA a0 3) (some (aA a1 0)) (cond (aA a0 4) (some (aA a1 0)) (cond (aA a0 5) (cond (bX 1 a1) (some (bX a1 24)) (some false)) (cond (aA a0 6) (cond (bX 1 a1) (some (bX a1 12)) (some false)) (cond (aA a0 7) (cond (bX 1 a1) (some (bX a1 12)) (some false)) (some false)))))))
abbrev xc.bT:=aj→Int→Option (Bool)
def xc.dA(N:Nat)(cS:xc.bT)(x0:aj)(x3:Int):Option (Bool):=
 cond (aG x3 (List.length x0:Int)) (cond (aI x3 (List.length x0)) (cond (aI x3 (List.length x0)) ((Le N ((List.getD x0 x3.toNat aM).1) (((List.getD x0 x3.toNat aM).2).1)).bind fun r2=>cond (!r2) (some false) (cond (aI x3 (List.length x0)) (cond (aA ((((List.getD x0 x3.toNat aM).2).2).1) (0:Int)) (some false) (cond (aG 0 x3) (cond (aI x3 (List.length x0)) (let v3:Int:=W .i64 (x3-1);cond (aI v3 (List.length x0)) (cond (aG ((List.getD x0 x3.toNat aM).1) ((List.getD x0 v3.toNat aM).1)) (some false) (cond (aI x3 (List.length x0)) (let v4:Int:=W .i64 (x3-1);cond (aI v4 (List.length x0)) (cond (aA ((List.getD x0 x3.toNat aM).1) ((List.getD x0 v4.toNat aM).1)) (cond (aI x3 (List.length x0)) (let v5:Int:=W .i64 (x3-1);cond (aI v5 (List.length x0)) (cond (bX (((List.getD x0 x3.toNat aM).2).1) (((List.getD x0 v5.toNat aM).2).1)) (some false) (cS x0 (W .i64 (x3+1)))) (none)) (none)) (cS x0 (W .i64 (x3+1)))) (none)) (none))) (none)) (none)) (cS x0 (W .i64 (x3+1))))) (none))) (none)) (none)) (some true)
def xc.l2(N:Nat):Nat→xc.bT
 |0,_,_=>none
 |n+1,x0,x3=>xc.dA N (xc.l2 N n) x0 x3
def xc.b(N:Nat)(eI:xc.bT)(a0:aj):Option (Bool):=
 eI a0 (0:Int)
def xc(N:Nat)(a0:aj):Option (Bool):=xc.b N (xc.l2 N N) a0
abbrev qZ.aY:=aj→Int→Int→Int→Option (Int)
def qZ.cD(N:Nat)(bA:qZ.aY)(x0:aj)(x1:Int)(x2:Int)(x7:Int):Option (Int):=
 cond (aG x7 (List.length x0:Int)) (cond (aI x7 (List.length x0)) (cond (aA ((List.getD x0 x7.toNat aM).1) x1) (cond (aI x7 (List.length x0)) (cond (aA (((List.getD x0 x7.toNat aM).2).1) x2) (cond (aI x7 (List.length x0)) (some ((((List.getD x0 x7.toNat aM).2).2).1)) (none)) (bA x0 x1 x2 (W .i64 (x7+1)))) (none)) (bA x0 x1 x2 (W .i64 (x7+1)))) (none)) (some (0:Int))
def qZ.l4(N:Nat):Nat→qZ.aY
 |0,_,_,_,_=>none
 |n+1,x0,x1,x2,x7=>qZ.cD N (qZ.l4 N n) x0 x1 x2 x7
def qZ.b(N:Nat)(c6:qZ.aY)(a0:aj)(a1:Int)(a2:Int):Option (Int):=
 (xc N a0).bind fun r1=>cond (!r1) (some (0:Int)) (c6 a0 a1 a2 (0:Int))
def qZ(N:Nat)(a0:aj)(a1:Int)(a2:Int):Option (Int):=qZ.b N (qZ.l4 N N) a0 a1 a2
def F38(N:Nat):Option (Bool):=
 (F99 N).bind fun r1=>(wq N r1.1 r1.2).bind fun r2=>(qq N r1.1 r1.2 (4:Int)).bind fun r3=>cond (!aA r2.2 0) (some false) (cond (!aA r3.2 0) (some false) (cond (!aA (List.length r2.1:Int) 4) (some false) (cond (!aA (List.length r3.1:Int) 1) (some false) (cond (aI 0 (List.length r3.1)) ((BP N r1.1 r1.2 (List.getD r3.1 (0:Int).toNat aJ) (1:Int) (2:Int) (99:Int)).bind fun r4=>cond (aI 0 (List.length r3.1)) ((BP N r1.1 r1.2 (List.getD r3.1 (0:Int).toNat aJ) (1:Int) (7:Int) (99:Int)).bind fun r5=>cond (aI 0 (List.length r2.1)) (cond (aA (((List.getD r2.1 (0:Int).toNat bL).2).1) (640:Int)) (cond (aI 0 (List.length r3.1)) (cond (jT (.pair (.int .i64) (.pair (.int .i64) (.pair (.int .i64) (.pair (.int .i64) .unit)))) (List.getD r3.1 (0:Int).toNat aJ) ((4:Int),((0:Int),((2:Int),((6:Int),()))))) (cond (aA r4.2.2 0) (cond (aA r4.2.1.2.2.2.1 4) ((wS N r4.1.2.2.2.1 (0:Int) (0:Int)).bind fun r6=>cond (aA r6 3) ((qZ N r4.1.2.2.1 (2:Int) (0:Int)).bind fun r7=>cond (aA r7 (-2)) (cond (aA r5.2.2 9) (cond (aI 0 (List.length r3.1)) ((F48 N (List.getD r3.1 (0:Int).toNat aJ)).bind fun r8=>some r8) (none)) (some false)) (some false)) (some false)) (some false)) (some false)) (some false)) (none)) (some false)) (none)) (none)) (none)))))
def F13(N:Nat)(a0:List (Int)):Option aO:=
 some (a0,((0:Int),()))
def F42(N:Nat)(a0:aO):Option ((Int)×aO):=
 cond (aG a0.2.1 (List.length a0.1:Int)) (cond (aI a0.2.1 (List.length a0.1)) (some (List.getD a0.1 a0.2.1.toNat (0:Int),(a0.1,((W .i64 (a0.2.1+1)),a0.2.2)))) (none)) (some ((0:Int),(a0.1,((W .i64 (a0.2.1+1)),a0.2.2))))
def nr(N:Nat)(a0:aO)(a1:Int):Option ((Int)×aO):=
 (F42 N a0).bind fun r1=>let v2:Int:=W .u64 a1;cond (aA v2 0) (none) (some ((W .i64 (rem r1.1 v2)),r1.2))
def Uf(N:Nat)(a0:aO)(a1:Int):Option ((Bool)×aO):=
 (nr N a0 a1).bind fun r1=>some (aA r1.1 (W .i64 (a1-1)),r1.2)
def KE(N:Nat)(a0:aO):Option ((Int)×aO):=
 (F42 N a0).bind fun r1=>cond (aA 8 0) (none) (let v2:Int:=rem r1.1 8;cond (aA v2 0) (cond (aG 1 0) (none) (some ((W .i64 (shr .u64 r1.1 1)),r1.2))) (cond (aA v2 1) (cond (aG 3 0) (none) (cond (aA 1000000000000 0) (none) (some ((W .i64 (rem (shr .u64 r1.1 3) 1000000000000)),r1.2)))) (cond (aA v2 2) (cond (aG 3 0) (none) (cond (aA 2 0) (none) (some ((W .i64 (rem (shr .u64 r1.1 3) 2)),r1.2)))) (cond (aG 3 0) (none) (cond (aA 5000 0) (none) (some ((W .i64 (rem (shr .u64 r1.1 3) 5000)),r1.2)))))))
abbrev rk.Tz:=aO→aa→aa→aD→Int→bp→Option (aa×aO)
abbrev rk.c0:=aO→aa→aa→aD→Int→Option (aa×aO)
def rk.RZ(N:Nat)(cG:rk.c0)(x0:aO)(x2:aa)(x3:aa)(P9:aD)(x4:Int)(x5:bp):Option (aa×aO):=
 (Uf N x0 (12:Int)).bind fun mF=>cond (mF.1) ((KE N mF.2).bind fun ob=>cond (aA 1000000001 0) (none) (let TA:Int:=rem ob.1 1000000001;(KE N ob.2).bind fun rO=>cond (aA 1000000001 0) (none) (let v18:Int:=rem rO.1 1000000001;cond (small (List.length P9+List.length ([(x5.1,(x5.2.1,(TA,(v18,x5.2.2.2.2))))]))) (cG rO.2 x2 (cg,x3.2) (P9++([(x5.1,(x5.2.1,(TA,(v18,x5.2.2.2.2))))])) (W .i64 (x4-1))) (none)))) (cond (small (List.length P9+List.length ([x5]))) (cG mF.2 x2 (cg,x3.2) (P9++([x5])) (W .i64 (x4-1))) (none))
def rk.j8(N:Nat)(cG:rk.c0)(x0:aO)(x2:aa)(x3:aa)(P9:aD)(x4:Int)(x5:bp):Option (aa×aO):=rk.RZ N cG x0 x2 x3 P9 x4 x5
def rk.jU(N:Nat)(I6:rk.Tz)(cG:rk.c0)(x0:aO)(x2:aa)(x3:aa)(P9:aD)(x4:Int):Option (aa×aO):=
 cond (aG 0 x4) ((nr N x0 (3:Int)).bind fun r4=>(nr N r4.2 (300:Int)).bind fun r5=>(nr N r5.2 (12:Int)).bind fun r7=>(nr N r7.2 (6:Int)).bind fun r8=>(Uf N r8.2 (12:Int)).bind fun r9=>cond (r9.1) ((KE N r9.2).bind fun gA=>cond (aA 1000000000000 0) (none) (I6 gA.2 x2 x3 P9 x4 (r4.1,((W .i64 ((1:Int)+(rem gA.1 1000000000000))),(r7.1,(r8.1,())))))) (I6 r9.2 x2 x3 P9 x4 (r4.1,((W .i64 ((1:Int)+r5.1)),(r7.1,(r8.1,())))))) ((nr N x0 (300:Int)).bind fun B4=>(nr N B4.2 (5:Int)).bind fun Gy=>(nr N Gy.2 (3:Int)).bind fun EB=>(nr N EB.2 (3:Int)).bind fun yN=>(nr N yN.2 (20:Int)).bind fun Qa=>let v28:Int:=W .i64 ((1:Int)+Qa.1);(nr N Qa.2 (100:Int)).bind fun Ez=>(Uf N Ez.2 (15:Int)).bind fun Mt=>cond (Mt.1) ((KE N Mt.2).bind fun NW=>some ((P9,(NW.1,(Gy.1,(EB.1,(yN.1,(v28,(Ez.1,x3.2.2.2.2.2.2.2))))))),NW.2)) (some ((P9,(B4.1,(Gy.1,(EB.1,(yN.1,(v28,(Ez.1,x3.2.2.2.2.2.2.2))))))),Mt.2)))
def rk.l3(N:Nat):Nat→rk.c0
 |0,_,_,_,_,_=>none
 |n+1,x0,x2,x3,P9,x4=>rk.jU N (rk.j8 N (rk.l3 N n)) (rk.l3 N n) x0 x2 x3 P9 x4
def rk.b(N:Nat)(lC:rk.c0)(a0:aO):Option (aa×aO):=
 (nr N a0 (4:Int)).bind fun r1=>lC r1.2 (cg,dT) (cg,dT) cg (W .i64 ((1:Int)+r1.1))
def rk(N:Nat)(a0:aO):Option (aa×aO):=rk.b N (rk.l3 N N) a0
abbrev dS.ew:=aO→gn→Int→Option (gn×aO)
abbrev dS.jq:=aO→gn→Int→Option (gn×aO)
abbrev dS.c0:=aO→gn→Int→Option (gn×aO)
def dS.kt(N:Nat)(fF:dS.ew)(x0:aO)(x5:gn)(x8:Int):Option (gn×aO):=
 cond (bX x8 7) ((nr N x0 (3000:Int)).bind fun ob=>let TA:Int:=W .i64 ((200:Int)+ob.1);(nr N ob.2 (200:Int)).bind fun rO=>let v18:Int:=W .i64 ((20:Int)+rO.1);cond (small (List.length x5+List.length ([((3:Int),((0:Int),(x8,((0:Int),((0:Int),((0:Int),(TA,((0:Int),())))))))),((6:Int),((0:Int),(x8,((0:Int),((0:Int),((0:Int),(v18,((0:Int),()))))))))]))) (fF rO.2 (x5++([((3:Int),((0:Int),(x8,((0:Int),((0:Int),((0:Int),(TA,((0:Int),())))))))),((6:Int),((0:Int),(x8,((0:Int),((0:Int),((0:Int),(v18,((0:Int),()))))))))])) (W .i64 (x8+1))) (none)) (some (x5,x0))
def dS.mi(N:Nat):Nat→dS.ew
 |0,_,_,_=>none
 |n+1,x0,x5,x8=>dS.kt N (dS.mi N n) x0 x5 x8
def dS.tJ(N:Nat)(qk:dS.ew)(mX:dS.jq)(x0:aO)(x5:gn)(x7:Int):Option (gn×aO):=
 cond (bX x7 7) ((nr N x0 (2:Int)).bind fun gA=>let v11:Int:=W .i64 ((1:Int)+gA.1);cond (small (List.length x5+List.length ([((2:Int),(v11,(x7,((0:Int),((2:Int),aM)))))]))) (mX gA.2 (x5++([((2:Int),(v11,(x7,((0:Int),((2:Int),aM)))))])) (W .i64 (x7+1))) (none)) (qk x0 x5 (1:Int))
def dS.l9(N:Nat):Nat→dS.jq
 |0,_,_,_=>none
 |n+1,x0,x5,x7=>dS.tJ N (dS.mi N N) (dS.l9 N n) x0 x5 x7
def dS.jU(N:Nat)(u2:dS.jq)(cG:dS.c0)(x0:aO)(x5:gn)(x6:Int):Option (gn×aO):=
 cond (bX x6 4) (cond (small (List.length x5+List.length ([((1:Int),(x6,dT)),((2:Int),(x6,(x6,((0:Int),((1:Int),aM)))))]))) (let v2:List ((Int)×((Int)×((Int)×((Int)×((Int)×((Int)×((Int)×((Int)×(Unit))))))))):=x5++([((1:Int),(x6,dT)),((2:Int),(x6,(x6,((0:Int),((1:Int),aM)))))]);(Uf N x0 (5:Int)).bind fun r3=>cond (!r3.1) ((nr N r3.2 (400:Int)).bind fun r4=>let v5:Int:=W .i64 ((1:Int)+r4.1);cond (small (List.length v2+List.length ([((5:Int),(x6,((0:Int),((0:Int),((0:Int),((0:Int),(v5,((0:Int),()))))))))]))) (cG r4.2 (v2++([((5:Int),(x6,((0:Int),((0:Int),((0:Int),((0:Int),(v5,((0:Int),()))))))))])) (W .i64 (x6+1))) (none)) (cG r3.2 v2 (W .i64 (x6+1)))) (none)) (u2 x0 x5 (5:Int))
def dS.l3(N:Nat):Nat→dS.c0
 |0,_,_,_=>none
 |n+1,x0,x5,x6=>dS.jU N (dS.l9 N N) (dS.l3 N n) x0 x5 x6
def dS.b(N:Nat)(lC:dS.c0)(a0:aO)(a1:aa):Option (gn×aO):=
 lC a0 ([]) (1:Int)
def dS(N:Nat)(a0:aO)(a1:aa):Option (gn×aO):=dS.b N (dS.l3 N N) a0 a1
def PI(N:Nat)(a0:aO)(a1:aa)(a2:Int):Option (fU×aO):=
 cond (aI a2 (List.length a1.1)) ((nr N a0 (61:Int)).bind fun r1=>(Uf N r1.2 (20:Int)).bind fun r6=>cond (r6.1) ((KE N r6.2).bind fun r7=>cond (aA 1000000000000 0) (none) (some (((9:Int),((0:Int),((0:Int),(a2,((0:Int),((0:Int),((0:Int),((W .i64 ((1:Int)+(rem r7.1 1000000000000))),())))))))),r7.2))) (some (((9:Int),((0:Int),((0:Int),(a2,((0:Int),((0:Int),((0:Int),((mx 1 (mn 1000000000000 (W .i64 ((W .i64 ((((List.getD a1.1 a2.toNat aJ).2).1)+r1.1))-30)))),())))))))),r6.2))) (none)
def SL(N:Nat)(a0:aO)(a1:aa):Option (fU×aO):=
 (nr N a0 (List.length a1.1:Int)).bind fun r1=>(nr N r1.2 (7:Int)).bind fun r2=>let v3:Int:=W .i64 ((1:Int)+r2.1);(nr N r2.2 (2:Int)).bind fun r4=>let v5:Int:=W .i64 ((1:Int)+r4.1);(nr N r4.2 (30:Int)).bind fun r6=>cond (aI r1.1 (List.length a1.1)) ((nr N r6.2 (21:Int)).bind fun r8=>(Uf N r8.2 (30:Int)).bind fun jE=>cond (jE.1) ((KE N jE.2).bind fun mF=>cond (aA 1000000000 0) (none) ((KE N mF.2).bind fun rO=>cond (aA 1000000000000 0) (none) (some (((7:Int),((0:Int),(v3,(r1.1,(v5,((0:Int),((W .i64 ((1:Int)+(rem mF.1 1000000000))),((W .i64 ((1:Int)+(rem rO.1 1000000000000))),())))))))),rO.2)))) (some (((7:Int),((0:Int),(v3,(r1.1,(v5,((0:Int),((W .i64 ((1:Int)+r6.1)),((mx 1 (mn 1000000000000 (W .i64 ((W .i64 ((((List.getD a1.1 r1.1.toNat aJ).2).1)+r8.1))-10)))),())))))))),jE.2))) (none)
def SM(N:Nat)(a0:aO)(a1:aa):Option (fU×aO):=
 (nr N a0 (4:Int)).bind fun r1=>let v2:Int:=W .i64 ((1:Int)+r1.1);(nr N r1.2 (7:Int)).bind fun r3=>let v4:Int:=W .i64 ((1:Int)+r3.1);(nr N r3.2 (List.length a1.1:Int)).bind fun r5=>(nr N r5.2 (36:Int)).bind fun r6=>let v7:Int:=W .i64 ((1:Int)+r6.1);cond (aA v7 1) (some ((v7,(v2,dT)),r6.2)) (cond (aA v7 11) (some ((v7,(v2,dT)),r6.2)) (cond (aA v7 12) (some ((v7,(v2,dT)),r6.2)) (cond (aA v7 13) (some ((v7,(v2,dT)),r6.2)) (cond (aA v7 2) ((nr N r6.2 (2:Int)).bind fun r8=>some ((v7,(v2,(v4,((0:Int),((W .i64 ((1:Int)+r8.1)),aM))))),r8.2)) (cond (aA v7 3) ((KE N r6.2).bind fun gA=>some ((v7,((0:Int),(v4,((0:Int),((0:Int),((0:Int),((mx gA.1 1),((0:Int),())))))))),gA.2)) (cond (aA v7 4) ((KE N r6.2).bind fun iX=>some ((v7,((0:Int),(v4,((0:Int),((0:Int),((0:Int),((mx iX.1 1),((0:Int),())))))))),iX.2)) (cond (aA v7 5) ((KE N r6.2).bind fun mF=>some ((v7,(v2,((0:Int),((0:Int),((0:Int),((0:Int),((mx mF.1 1),((0:Int),())))))))),mF.2)) (cond (aA v7 22) ((KE N r6.2).bind fun ri=>some ((v7,(v2,((0:Int),((0:Int),((0:Int),((0:Int),((mx ri.1 1),((0:Int),())))))))),ri.2)) (cond (aA v7 6) ((KE N r6.2).bind fun uk=>cond (aA 1000000000001 0) (none) (some ((v7,((0:Int),(v4,((0:Int),((0:Int),((0:Int),((rem uk.1 1000000000001),((0:Int),())))))))),uk.2))) (cond (aA v7 8) ((nr N r6.2 (40:Int)).bind fun Cu=>some ((v7,((0:Int),(v4,((0:Int),((0:Int),((W .i64 ((1:Int)+Cu.1)),bL)))))),Cu.2)) (cond (aA v7 9) ((PI N r6.2 a1 r5.1).bind fun KJ=>some (KJ.1,KJ.2)) (cond (aA v7 10) ((nr N r6.2 (3:Int)).bind fun B4=>some ((v7,((0:Int),((0:Int),((0:Int),((0:Int),((0:Int),((W .i64 ((1:Int)+B4.1)),((0:Int),())))))))),B4.2)) (cond (aA v7 14) (some ((v7,(v2,(v4,dX))),r6.2)) (cond (aA v7 15) (some ((v7,zz7),r6.2)) (cond (aA v7 16) (some ((v7,zz7),r6.2)) (cond (aA v7 18) (some ((v7,zz7),r6.2)) (cond (aA v7 20) (some ((v7,zz7),r6.2)) (cond (aA v7 21) (some ((v7,zz7),r6.2)) (cond (aA v7 17) ((nr N r6.2 (60:Int)).bind fun EB=>(nr N EB.2 (20:Int)).bind fun Qa=>cond (aI r5.1 (List.length a1.1)) (some ((v7,((0:Int),(v4,((0:Int),((0:Int),((W .i64 ((1:Int)+EB.1)),((W .i64 ((1:Int)+Qa.1)),(((List.getD a1.1 r5.1.toNat aJ).2).1,())))))))),Qa.2)) (none)) (cond (aA v7 19) ((nr N r6.2 (60:Int)).bind fun Ez=>(nr N Ez.2 (80:Int)).bind fun NW=>some ((v7,(v2,((0:Int),((0:Int),((0:Int),((W .i64 ((1:Int)+Ez.1)),((0:Int),((W .i64 (NW.1-60)),())))))))),NW.2)) ((SL N r6.2 a1).bind fun r33=>some (r33.1,r33.2))))))))))))))))))))))
abbrev zZ.c0:=aO→aa→gn→Int→Option (gn×aO)
def zZ.jU(N:Nat)(cG:zZ.c0)(x0:aO)(x4:aa)(x7:gn)(x8:Int):Option (gn×aO):=
 cond (aG 0 x8) ((nr N x0 (8:Int)).bind fun r5=>cond (aA r5.1 0) ((SM N r5.2 x4).bind fun r6=>cond (small (List.length x7+List.length ([r6.1]))) (cG r6.2 x4 (x7++([r6.1])) (W .i64 (x8-1))) (none)) (cond (aA r5.1 1) ((nr N r5.2 (List.length x4.1:Int)).bind fun r9=>(PI N r9.2 x4 r9.1).bind fun gA=>cond (small (List.length x7+List.length ([gA.1]))) (cG gA.2 x4 (x7++([gA.1])) (W .i64 (x8-1))) (none)) ((SL N r5.2 x4).bind fun jE=>cond (small (List.length x7+List.length ([jE.1]))) (cG jE.2 x4 (x7++([jE.1])) (W .i64 (x8-1))) (none)))) (some (x7,x0))
def zZ.l3(N:Nat):Nat→zZ.c0
 |0,_,_,_,_=>none
 |n+1,x0,x4,x7,x8=>zZ.jU N (zZ.l3 N n) x0 x4 x7 x8
def zZ.b(N:Nat)(lC:zZ.c0)(a0:aO)(a1:aa)(a2:Int):Option (gn×aO):=
 (dS N a0 a1).bind fun r1=>(nr N r1.2 (W .i64 (a2+1))).bind fun r3=>lC r3.2 a1 r1.1 r3.1
def zZ(N:Nat)(a0:aO)(a1:aa)(a2:Int):Option (gn×aO):=zZ.b N (zZ.l3 N N) a0 a1 a2
abbrev zq.c0:=aO→aa→gn→Int→Option (gn×aO)
def zq.jU(N:Nat)(cG:zq.c0)(x0:aO)(x3:aa)(x5:gn)(x6:Int):Option (gn×aO):=
 cond (aG 0 x6) ((Uf N x0 (2:Int)).bind fun r3=>cond (r3.1) ((nr N r3.2 (List.length x3.1:Int)).bind fun r4=>(PI N r4.2 x3 r4.1).bind fun r5=>cond (small (List.length x5+List.length ([r5.1]))) (cG r5.2 x3 (x5++([r5.1])) (W .i64 (x6-1))) (none)) ((SM N r3.2 x3).bind fun r8=>cond (small (List.length x5+List.length ([r8.1]))) (cG r8.2 x3 (x5++([r8.1])) (W .i64 (x6-1))) (none))) (some (x5,x0))
def zq.l3(N:Nat):Nat→zq.c0
 |0,_,_,_,_=>none
 |n+1,x0,x3,x5,x6=>zq.jU N (zq.l3 N n) x0 x3 x5 x6
def zq.b(N:Nat)(lC:zq.c0)(a0:aO)(a1:aa):Option (gn×aO):=
 (nr N a0 (3:Int)).bind fun r1=>lC r1.2 a1 ([]) r1.1
def zq(N:Nat)(a0:aO)(a1:aa):Option (gn×aO):=zq.b N (zq.l3 N N) a0 a1
def CW(N:Nat)(a0:Int)(a1:Int)(a2:Int):Option (Bool):=
 cond (bX a1 a0) (some (bX a0 a2)) (some false)
abbrev jd.aY:=aa→Int→Option (Bool)
def jd.cD(N:Nat)(bA:jd.aY)(x1:aa)(x3:Int):Option (Bool):=
 cond (aG x3 (List.length x1.1:Int)) (cond (aI x3 (List.length x1.1)) ((CW N ((List.getD x1.1 x3.toNat aJ).1) (0:Int) (3:Int)).bind fun r2=>cond (!r2) (some false) ((CW N (((List.getD x1.1 x3.toNat aJ).2).1) (1:Int) (1000000000000:Int)).bind fun r3=>cond (!r3) (some false) ((CW N ((((List.getD x1.1 x3.toNat aJ).2).2).1) (0:Int) (1000000000:Int)).bind fun r4=>cond (!r4) (some false) ((CW N (((((List.getD x1.1 x3.toNat aJ).2).2).2).1) (0:Int) (1000000000:Int)).bind fun r5=>cond (!r5) (some false) (bA x1 (W .i64 (x3+1))))))) (none)) (cond (bX 0 x1.2.1) ((CW N x1.2.2.1 (0:Int) (4:Int)).bind fun r7=>cond (r7) ((CW N x1.2.2.2.1 (0:Int) (1000000:Int)).bind fun r8=>cond (r8) ((CW N x1.2.2.2.2.1 (0:Int) (1000000:Int)).bind fun r9=>cond (r9) ((CW N x1.2.2.2.2.2.1 (1:Int) (4611686018427387904:Int)).bind fun gA=>cond (gA) (some (bX 0 x1.2.2.2.2.2.2.1)) (some false)) (some false)) (some false)) (some false)) (some false))
def jd.l4(N:Nat):Nat→jd.aY
 |0,_,_=>none
 |n+1,x1,x3=>jd.cD N (jd.l4 N n) x1 x3
def jd.b(N:Nat)(c6:jd.aY)(a0:aa):Option (Bool):=
 cond (aG (List.length a0.1:Int) 1) (some false) (cond (aG 6 (List.length a0.1:Int)) (some false) (c6 a0 (0:Int)))
def jd(N:Nat)(a0:aa):Option (Bool):=jd.b N (jd.l4 N N) a0
abbrev gU.dq:=aa→ag→ag→(List (Int))→Int→Option (ag×(Int))
abbrev gU.Ms:=aa→ag→ag→(List (Int))→Option (ag×(Int))
def gU.mE(N:Nat)(df:gU.dq)(x1:aa)(x2:ag)(x4:ag)(WL:List (Int))(x5:Int):Option (ag×(Int)):=
 cond (aG x5 (List.length x1.1:Int)) (cond (aI x5 (List.length x1.1)) (cond (small (List.length WL+List.length ([((List.getD x1.1 x5.toNat aJ).2).1]))) (df x1 x2 (x4.1,(x4.2.1,(x4.2.2.1,(x4.2.2.2.1,(cC,x4.2.2.2.2.2))))) (WL++([((List.getD x1.1 x5.toNat aJ).2).1])) (W .i64 (x5+1))) (none)) (none)) (some ((x4.1,(x4.2.1,(x4.2.2.1,(x4.2.2.2.1,(WL,x4.2.2.2.2.2))))),(0:Int)))
def gU.l7(N:Nat):Nat→gU.dq
 |0,_,_,_,_,_=>none
 |n+1,x1,x2,x4,WL,x5=>gU.mE N (gU.l7 N n) x1 x2 x4 WL x5
def gU.KB(N:Nat)(pJ:gU.dq)(x1:aa)(x2:ag)(x4:ag)(WL:List (Int)):Option (ag×(Int)):=
 pJ x1 x2 x4 WL (0:Int)
def gU.j6(N:Nat)(x1:aa)(x2:ag)(x4:ag)(WL:List (Int)):Option (ag×(Int)):=gU.KB N (gU.l7 N N) x1 x2 x4 WL
def gU.b(N:Nat)(xB:gU.Ms)(a0:aa):Option (ag×(Int)):=
 (jd N a0).bind fun r1=>cond (!r1) (some ((bE,(cg,(aX,(aX,(cC,(cK,())))))),(1:Int))) (cond (!aA a0.2.1 0) (xB a0 (bE,(cg,(aX,(aX,(cC,(cK,())))))) (bE,(cg,([((1:Int),((0:Int),((W .i64 (0-a0.2.1)),()))),((3:Int),((0:Int),(a0.2.1,())))],(aX,(cC,(cK,())))))) cC) (xB a0 (bE,(cg,(aX,(aX,(cC,(cK,())))))) (bE,(cg,(aX,(aX,(cC,(cK,())))))) cC))
def gU(N:Nat)(a0:aa):Option (ag×(Int)):=gU.b N (gU.j6 N) a0
def adJ(N:Nat)(a0:aa):Option (aR×(Int)):=
 (gU N a0).bind fun r1=>cond (!aA r1.2 0) (some (((0:Int),((0:Int),((bE,(cg,(aX,(aX,(cC,(cK,())))))),(((0:Int),((0:Int),((0:Int),((0:Int),(cg,(([]:List ((Int)×((List ((Int)×((Int)×(Unit))))×((Int)×((Int)×((Int)×((Int)×(Unit)))))))),(cg,(cC,(bE,(bE,())))))))))),(((0:Int),((0:Int),(zA,((0:Int),())))),()))))),r1.2)) (some (((0:Int),((1:Int),(r1.1,(((0:Int),((0:Int),((0:Int),((0:Int),(cg,(([]:List ((Int)×((List ((Int)×((Int)×(Unit))))×((Int)×((Int)×((Int)×((Int)×(Unit)))))))),(cg,(cC,(bE,(bE,())))))))))),(((0:Int),((0:Int),(zA,((0:Int),())))),()))))),(0:Int)))
def adx(N:Nat)(a0:Int):Option (Bool):=
 cond (bX 1 a0) (some (bX a0 22)) (some false)
def Wb(N:Nat)(a0:Int):Option (ByteArray):=
 cond (aA a0 1) (some (strOf [77])) (cond (aA a0 11) (some (strOf [77])) (cond (aA a0 12) (some (strOf [77])) (cond (aA a0 13) (some (strOf [77])) (cond (aA a0 2) (some (strOf [77,65,83])) (cond (aA a0 3) (some (strOf [65,81])) (cond (aA a0 4) (some (strOf [65,81])) (cond (aA a0 6) (some (strOf [65,81])) (cond (aA a0 5) (some (strOf [77,81])) (cond (aA a0 22) (some (strOf [77,81])) (cond (aA a0 7) (some (strOf [65,73,83,81,80])) (cond (aA a0 8) (some (strOf [65,68])) (cond (aA a0 9) (some (strOf [73,80])) (cond (aA a0 10) (some (strOf [81])) (cond (aA a0 14) (some (strOf [77,65])) (cond (aA a0 17) (some (strOf [65,68,81,80])) (cond (aA a0 19) (some (strOf [77,68,80])) (some (strOf []))))))))))))))))))
def adv(N:Nat)(a0:Int):Option ((Int)×(Int)):=
 cond (aA a0 6) (some ((0:Int),(1000000000000:Int))) (cond (aA a0 7) (some ((1:Int),(1000000000:Int))) (cond (aA a0 17) (some ((1:Int),(1000000000:Int))) (cond (aA a0 10) (some ((1:Int),(1000000:Int))) (some ((1:Int),(9223372036854775807:Int))))))
def adw(N:Nat)(a0:Int):Option ((Int)×(Int)):=
 cond (aA a0 19) (some ((-1152921504606846976:Int),(1152921504606846976:Int))) (some ((1:Int),(1000000000000:Int)))
def Wc(N:Nat)(a0:Int)(a1:Int):Option ((Int)×(Int)):=
 cond (aA a1 77) (some ((1:Int),(12:Int))) (cond (aA a1 65) (some ((1:Int),(24:Int))) (cond (aA a1 73) (some ((0:Int),(5:Int))) (cond (aA a1 83) (some ((1:Int),(2:Int))) (cond (aA a1 68) (some ((1:Int),(1099511627776:Int))) (cond (aA a1 81) ((adv N a0).bind fun r1=>some (r1.1,r1.2)) ((adw N a0).bind fun r2=>some (r2.1,r2.2)))))))
def Wd(N:Nat)(a0:fU)(a1:Int):Option (Int):=
 cond (aA a1 77) (some a0.2.1) (cond (aA a1 65) (some a0.2.2.1) (cond (aA a1 73) (some a0.2.2.2.1) (cond (aA a1 83) (some a0.2.2.2.2.1) (cond (aA a1 68) (some a0.2.2.2.2.2.1) (cond (aA a1 81) (some a0.2.2.2.2.2.2.1) (some a0.2.2.2.2.2.2.2.1))))))
def We(N:Nat)(a0:fU)(a1:Int)(a2:Int):Option fU:=
 cond (aA a1 77) (some (a0.1,(a2,a0.2.2))) (cond (aA a1 65) (some (a0.1,(a0.2.1,(a2,a0.2.2.2)))) (cond (aA a1 73) (some (a0.1,(a0.2.1,(a0.2.2.1,(a2,a0.2.2.2.2))))) (cond (aA a1 83) (some (a0.1,(a0.2.1,(a0.2.2.1,(a0.2.2.2.1,(a2,a0.2.2.2.2.2)))))) (cond (aA a1 68) (some (a0.1,(a0.2.1,(a0.2.2.1,(a0.2.2.2.1,(a0.2.2.2.2.1,(a2,a0.2.2.2.2.2.2))))))) (cond (aA a1 81) (some (a0.1,(a0.2.1,(a0.2.2.1,(a0.2.2.2.1,(a0.2.2.2.2.1,(a0.2.2.2.2.2.1,(a2,a0.2.2.2.2.2.2.2)))))))) (some (a0.1,(a0.2.1,(a0.2.2.1,(a0.2.2.2.1,(a0.2.2.2.2.1,(a0.2.2.2.2.2.1,(a0.2.2.2.2.2.2.1,(a2,a0.2.2.2.2.2.2.2.2))))))))))))))
abbrev od.fe:=fU→ByteArray→fU→Int→Option (Bool)
def od.pE(N:Nat)(ff:od.fe)(x1:fU)(x3:ByteArray)(x4:fU)(x5:Int):Option (Bool):=
 cond (aG x5 (ByteArray.size x3:Int)) (cond (aI x5 (ByteArray.size x3)) ((Wc N x1.1 ((x3.data.getD x5.toNat 0).toNat:Int)).bind fun r4=>cond (aI x5 (ByteArray.size x3)) ((Wd N x1 ((x3.data.getD x5.toNat 0).toNat:Int)).bind fun r5=>cond (aG r5 r4.1) (some false) (cond (aG r4.2 r5) (some false) (cond (aI x5 (ByteArray.size x3)) ((We N x4 ((x3.data.getD x5.toNat 0).toNat:Int) r5).bind fun r6=>ff x1 x3 r6 (W .i64 (x5+1))) (none)))) (none)) (none)) (some (jT (.pair (.int .i64) (.pair (.int .i64) (.pair (.int .i64) (.pair (.int .i64) (.pair (.int .i64) (.pair (.int .i64) (.pair (.int .i64) (.pair (.int .i64) .unit)))))))) x4 x1))
def od.l6(N:Nat):Nat→od.fe
 |0,_,_,_,_=>none
 |n+1,x1,x3,x4,x5=>od.pE N (od.l6 N n) x1 x3 x4 x5
def od.b(N:Nat)(rr:od.fe)(a0:fU):Option (Bool):=
 (adx N a0.1).bind fun r1=>cond (!r1) (some false) ((Wb N a0.1).bind fun r2=>rr a0 r2 (a0.1,zz7) (0:Int))
def od(N:Nat)(a0:fU):Option (Bool):=od.b N (od.l6 N N) a0
abbrev kL.bT:=av→Int→Option (Bool)
def kL.dA(N:Nat)(cS:kL.bT)(x0:av)(x3:Int):Option (Bool):=
 cond (aG x3 (List.length x0:Int)) (cond (aI x3 (List.length x0)) (cond (aG ((List.getD x0 x3.toNat bL).1) (1:Int)) (some false) (cond (aI x3 (List.length x0)) (cond (aG 12 ((List.getD x0 x3.toNat bL).1)) (some false) (cond (aI x3 (List.length x0)) (cond (aG (((List.getD x0 x3.toNat bL).2).1) (1:Int)) (some false) (cond (aI x3 (List.length x0)) (cond (aG 4 (((List.getD x0 x3.toNat bL).2).1)) (some false) (cond (aG 0 x3) (cond (aI x3 (List.length x0)) (let v2:Int:=W .i64 (x3-1);cond (aI v2 (List.length x0)) (cond (bX ((List.getD x0 x3.toNat bL).1) ((List.getD x0 v2.toNat bL).1)) (some false) (cS x0 (W .i64 (x3+1)))) (none)) (none)) (cS x0 (W .i64 (x3+1))))) (none))) (none))) (none))) (none)) (some true)
def kL.l2(N:Nat):Nat→kL.bT
 |0,_,_=>none
 |n+1,x0,x3=>kL.dA N (kL.l2 N n) x0 x3
def kL.b(N:Nat)(eI:kL.bT)(a0:av):Option (Bool):=
 eI a0 (0:Int)
def kL(N:Nat)(a0:av):Option (Bool):=kL.b N (kL.l2 N N) a0
abbrev jM.bT:=av→Int→Int→Option (Int)
def jM.dA(N:Nat)(cS:jM.bT)(x0:av)(x1:Int)(x5:Int):Option (Int):=
 cond (aG x5 (List.length x0:Int)) (cond (aI x5 (List.length x0)) (cond (aA ((List.getD x0 x5.toNat bL).1) x1) (cond (aI x5 (List.length x0)) (some (((List.getD x0 x5.toNat bL).2).1)) (none)) (cS x0 x1 (W .i64 (x5+1)))) (none)) (some (0:Int))
def jM.l2(N:Nat):Nat→jM.bT
 |0,_,_,_=>none
 |n+1,x0,x1,x5=>jM.dA N (jM.l2 N n) x0 x1 x5
def jM.b(N:Nat)(eI:jM.bT)(a0:av)(a1:Int):Option (Int):=
 eI a0 a1 (0:Int)
def jM(N:Nat)(a0:av)(a1:Int):Option (Int):=jM.b N (jM.l2 N N) a0 a1
abbrev il.Mu:=av→Int→av→Int→Option (av×(Int))
abbrev il.dq:=av→Int→av→Int→Option (av×(Int))
def il.La(N:Nat)(x0:av)(x1:Int)(x6:av)(x7:Int):Option (av×(Int)):=
 cond (gH 0 x7 (List.length x0:Int) (List.length x0:Int)) (let v6:List ((Int)×((Int)×(Unit))):=List.drop (0:Int).toNat (List.take x7.toNat x0);cond (small (List.length x6+List.length v6)) (let v7:List ((Int)×((Int)×(Unit))):=x6++v6;cond (small (List.length v7+List.length ([(x1,((1:Int),()))]))) (let v8:List ((Int)×((Int)×(Unit))):=v7++([(x1,((1:Int),()))]);cond (gH x7 (List.length x0:Int) (List.length x0:Int) (List.length x0:Int)) (let v9:List ((Int)×((Int)×(Unit))):=List.drop x7.toNat (List.take (List.length x0:Int).toNat x0);cond (small (List.length v8+List.length v9)) (some ((v8++v9),(0:Int))) (none)) (none)) (none)) (none)) (none)
def il.j9(N:Nat)(x0:av)(x1:Int)(x6:av)(x7:Int):Option (av×(Int)):=il.La N x0 x1 x6 x7
def il.mE(N:Nat)(Cb:il.Mu)(df:il.dq)(x0:av)(x1:Int)(x6:av)(x7:Int):Option (av×(Int)):=
 cond (aG x7 (List.length x0:Int)) (cond (aI x7 (List.length x0)) (cond (aG ((List.getD x0 x7.toNat bL).1) x1) (df x0 x1 x6 (W .i64 (x7+1))) (Cb x0 x1 x6 x7)) (none)) (Cb x0 x1 x6 x7)
def il.l7(N:Nat):Nat→il.dq
 |0,_,_,_,_=>none
 |n+1,x0,x1,x6,x7=>il.mE N (il.j9 N) (il.l7 N n) x0 x1 x6 x7
def il.b(N:Nat)(pJ:il.dq)(a0:av)(a1:Int):Option (av×(Int)):=
 (kL N a0).bind fun r1=>cond (!r1) (some ([],(1:Int))) (cond (aG a1 1) (some ([],(1:Int))) (cond (aG 12 a1) (some ([],(1:Int))) ((jM N a0 a1).bind fun r2=>cond (!aA r2 0) (some ([],(4:Int))) (pJ a0 a1 ([]) (0:Int)))))
def il(N:Nat)(a0:av)(a1:Int):Option (av×(Int)):=il.b N (il.l7 N N) a0 a1
def et(N:Nat)(a0:Int):Option bY:=
 some (a0,bL)
abbrev iU.fV:=aD→Int→bp→Int→Option (Bool)
abbrev iU.Mr:=aD→Int→bp→Option (Bool)
abbrev iU.bT:=aD→Int→Option (Bool)
def iU.zL(N:Nat)(cS:iU.bT)(dW:iU.fV)(x0:aD)(x3:Int)(x4:bp)(x5:Int):Option (Bool):=
 cond (aG x5 x3) (cond (aA x4.2.2.1 1) (cond (aI x5 (List.length x0)) (cond (aA ((((List.getD x0 x5.toNat aJ).2).2).1) (1:Int)) (cond (aI x5 (List.length x0)) (cond (aA (((List.getD x0 x5.toNat aJ).2).1) x4.2.1) (some false) (dW x0 x3 x4 (W .i64 (x5+1)))) (none)) (dW x0 x3 x4 (W .i64 (x5+1)))) (none)) (dW x0 x3 x4 (W .i64 (x5+1)))) (cS x0 (W .i64 (x3+1)))
def iU.l8(N:Nat)(cS:iU.bT):Nat→iU.fV
 |0,_,_,_,_=>none
 |n+1,x0,x3,x4,x5=>iU.zL N cS (iU.l8 N cS n) x0 x3 x4 x5
def iU.K8(N:Nat)(Cc:iU.fV)(cS:iU.bT)(x0:aD)(x3:Int)(x4:bp):Option (Bool):=
 Cc x0 x3 x4 (0:Int)
def iU.j7(N:Nat)(cS:iU.bT)(x0:aD)(x3:Int)(x4:bp):Option (Bool):=iU.K8 N (iU.l8 N cS N) cS x0 x3 x4
def iU.dA(N:Nat)(xz:iU.Mr)(cS:iU.bT)(x0:aD)(x3:Int):Option (Bool):=
 cond (aG x3 (List.length x0:Int)) (cond (aI x3 (List.length x0)) (cond (aG ((List.getD x0 x3.toNat aJ).1) (1:Int)) (some false) (cond (aG 24 ((List.getD x0 x3.toNat aJ).1)) (some false) (cond (aG (((List.getD x0 x3.toNat aJ).2).1) (1:Int)) (some false) (cond (aG 12 (((List.getD x0 x3.toNat aJ).2).1)) (some false) (cond (!aA ((((List.getD x0 x3.toNat aJ).2).2).1) (1:Int)) (cond (!aA ((((List.getD x0 x3.toNat aJ).2).2).1) (2:Int)) (some false) (cond (aG (((((List.getD x0 x3.toNat aJ).2).2).2).1) (0:Int)) (some false) (cond (aG 1000000000000 (((((List.getD x0 x3.toNat aJ).2).2).2).1)) (some false) (cond (aG 0 x3) (let v2:Int:=W .i64 (x3-1);cond (aI v2 (List.length x0)) (cond (bX ((List.getD x0 x3.toNat aJ).1) ((List.getD x0 v2.toNat aJ).1)) (some false) (xz x0 x3 (List.getD x0 x3.toNat aJ))) (none)) (xz x0 x3 (List.getD x0 x3.toNat aJ)))))) (cond (aG (((((List.getD x0 x3.toNat aJ).2).2).2).1) (0:Int)) (some false) (cond (aG 1000000000000 (((((List.getD x0 x3.toNat aJ).2).2).2).1)) (some false) (cond (aG 0 x3) (let v9:Int:=W .i64 (x3-1);cond (aI v9 (List.length x0)) (cond (bX ((List.getD x0 x3.toNat aJ).1) ((List.getD x0 v9.toNat aJ).1)) (some false) (xz x0 x3 (List.getD x0 x3.toNat aJ))) (none)) (xz x0 x3 (List.getD x0 x3.toNat aJ)))))))))) (none)) (some true)
def iU.l2(N:Nat):Nat→iU.bT
 |0,_,_=>none
 |n+1,x0,x3=>iU.dA N (iU.j7 N (iU.l2 N n)) (iU.l2 N n) x0 x3
def iU.b(N:Nat)(eI:iU.bT)(a0:aD):Option (Bool):=
 eI a0 (0:Int)
def iU(N:Nat)(a0:aD):Option (Bool):=iU.b N (iU.l2 N N) a0
abbrev ll.aY:=av→aD→Int→Option (Bool)
def ll.cD(N:Nat)(bA:ll.aY)(x0:av)(x1:aD)(x5:Int):Option (Bool):=
 cond (aG x5 (List.length x1:Int)) (cond (aI x5 (List.length x1)) ((jM N x0 (((List.getD x1 x5.toNat aJ).2).1)).bind fun r4=>cond (aA r4 0) (some false) (bA x0 x1 (W .i64 (x5+1)))) (none)) (some true)
def ll.l4(N:Nat):Nat→ll.aY
 |0,_,_,_=>none
 |n+1,x0,x1,x5=>ll.cD N (ll.l4 N n) x0 x1 x5
def ll.b(N:Nat)(c6:ll.aY)(a0:av)(a1:aD):Option (Bool):=
 (kL N a0).bind fun r1=>cond (!r1) (some false) ((iU N a1).bind fun r2=>cond (!r2) (some false) (c6 a0 a1 (0:Int)))
def ll(N:Nat)(a0:av)(a1:aD):Option (Bool):=ll.b N (ll.l4 N N) a0 a1
abbrev kN.bT:=aD→Int→bp→Int→Option (bp×(Bool))
def kN.dA(N:Nat)(cS:kN.bT)(x0:aD)(x1:Int)(x4:bp)(x6:Int):Option (bp×(Bool)):=
 cond (aG x6 (List.length x0:Int)) (cond (aI x6 (List.length x0)) (cond (aA ((List.getD x0 x6.toNat aJ).1) x1) (cond (aI x6 (List.length x0)) (some (List.getD x0 x6.toNat aJ,true)) (none)) (cS x0 x1 x4 (W .i64 (x6+1)))) (none)) (some (aJ,false))
def kN.l2(N:Nat):Nat→kN.bT
 |0,_,_,_,_=>none
 |n+1,x0,x1,x4,x6=>kN.dA N (kN.l2 N n) x0 x1 x4 x6
def kN.b(N:Nat)(eI:kN.bT)(a0:aD)(a1:Int):Option (bp×(Bool)):=
 eI a0 a1 aJ (0:Int)
def kN(N:Nat)(a0:aD)(a1:Int):Option (bp×(Bool)):=kN.b N (kN.l2 N N) a0 a1
abbrev uI.aY:=aD→Int→Int→Option (Int)
def uI.cD(N:Nat)(bA:uI.aY)(x0:aD)(x1:Int)(x5:Int):Option (Int):=
 cond (aG x5 (List.length x0:Int)) (cond (aI x5 (List.length x0)) (cond (aA (((List.getD x0 x5.toNat aJ).2).1) x1) (cond (aI x5 (List.length x0)) (cond (aA ((((List.getD x0 x5.toNat aJ).2).2).1) (1:Int)) (cond (aI x5 (List.length x0)) (some ((List.getD x0 x5.toNat aJ).1)) (none)) (bA x0 x1 (W .i64 (x5+1)))) (none)) (bA x0 x1 (W .i64 (x5+1)))) (none)) (some (0:Int))
def uI.l4(N:Nat):Nat→uI.aY
 |0,_,_,_=>none
 |n+1,x0,x1,x5=>uI.cD N (uI.l4 N n) x0 x1 x5
def uI.b(N:Nat)(c6:uI.aY)(a0:aD)(a1:Int):Option (Int):=
 (iU N a0).bind fun r1=>cond (!r1) (some (0:Int)) (c6 a0 a1 (0:Int))
def uI(N:Nat)(a0:aD)(a1:Int):Option (Int):=uI.b N (uI.l4 N N) a0 a1
abbrev eV.wH:=aD→bp→aD→Int→Option (aD×(Int))
abbrev eV.ew:=aD→bp→aD→Int→Option (aD×(Int))
abbrev eV.I7:=aD→bp→Option (aD×(Int))
def eV.qg(N:Nat)(x1:aD)(x5:bp)(aK:aD)(aP:Int):Option (aD×(Int)):=
 cond (gH 0 aP (List.length x1:Int) (List.length x1:Int)) (let v10:List ((Int)×((Int)×((Int)×((Int)×(Unit))))):=List.drop (0:Int).toNat (List.take aP.toNat x1);cond (small (List.length aK+List.length v10)) (let v11:List ((Int)×((Int)×((Int)×((Int)×(Unit))))):=aK++v10;cond (small (List.length v11+List.length ([x5]))) (let KH:List ((Int)×((Int)×((Int)×((Int)×(Unit))))):=v11++([x5]);cond (gH aP (List.length x1:Int) (List.length x1:Int) (List.length x1:Int)) (let v13:List ((Int)×((Int)×((Int)×((Int)×(Unit))))):=List.drop aP.toNat (List.take (List.length x1:Int).toNat x1);cond (small (List.length KH+List.length v13)) (some ((KH++v13),(0:Int))) (none)) (none)) (none)) (none)) (none)
def eV.wT(N:Nat)(x1:aD)(x5:bp)(aK:aD)(aP:Int):Option (aD×(Int)):=eV.qg N x1 x5 aK aP
def eV.kt(N:Nat)(m5:eV.wH)(fF:eV.ew)(x1:aD)(x5:bp)(aK:aD)(aP:Int):Option (aD×(Int)):=
 cond (aG aP (List.length x1:Int)) (cond (aI aP (List.length x1)) (cond (aG ((List.getD x1 aP.toNat aJ).1) x5.1) (fF x1 x5 aK (W .i64 (aP+1))) (m5 x1 x5 aK aP)) (none)) (m5 x1 x5 aK aP)
def eV.mi(N:Nat):Nat→eV.ew
 |0,_,_,_,_=>none
 |n+1,x1,x5,aK,aP=>eV.kt N (eV.wT N) (eV.mi N n) x1 x5 aK aP
def eV.BU(N:Nat)(qk:eV.ew)(x1:aD)(x5:bp):Option (aD×(Int)):=
 qk x1 x5 ([]) (0:Int)
def eV.KF(N:Nat)(x1:aD)(x5:bp):Option (aD×(Int)):=eV.BU N (eV.mi N N) x1 x5
def eV.b(N:Nat)(yO:eV.I7)(a0:av)(a1:aD)(a2:bp):Option (aD×(Int)):=
 (ll N a0 a1).bind fun r1=>cond (!r1) (some ([],(1:Int))) ((iU N ([a2])).bind fun r2=>cond (!r2) (some ([],(1:Int))) ((jM N a0 a2.2.1).bind fun r3=>cond (aA r3 0) (some ([],(3:Int))) (cond (!aA r3 1) (some ([],(7:Int))) ((kN N a1 a2.1).bind fun r4=>cond (r4.2) (some ([],(4:Int))) (cond (aA a2.2.2.1 1) ((uI N a1 a2.2.1).bind fun r5=>cond (!aA r5 0) (some ([],(4:Int))) (yO a1 a2)) (yO a1 a2))))))
def eV(N:Nat)(a0:av)(a1:aD)(a2:bp):Option (aD×(Int)):=eV.b N (eV.KF N) a0 a1 a2
def A0(N:Nat)(a0:aD)(a1:Int):Option (bp×(Bool)):=
 (iU N a0).bind fun r1=>cond (!r1) (some (aJ,false)) ((kN N a0 a1).bind fun r2=>some (r2.1,r2.2))
def Tl(N:Nat)(a0:aR)(a1:Int):Option (Bool):=
 (A0 N a0.2.2.1.2.1 a1).bind fun r1=>some r1.2
abbrev la.bT:=(List (Int))→Int→Option (List (Int))
def la.dA(N:Nat)(cS:la.bT)(x0:List (Int))(x3:Int):Option (List (Int)):=
 cond (aG 0 x3) (let v2:Int:=W .i64 (x3-1);cond (aI v2 (List.length x0)) (cond (aA (List.getD x0 v2.toNat (0:Int)) (0:Int)) (cS x0 (W .i64 (x3-1))) (cond (gH 0 x3 x3 (List.length x0:Int)) (some (List.drop (0:Int).toNat (List.take x3.toNat x0))) (none))) (none)) (cond (gH 0 x3 x3 (List.length x0:Int)) (some (List.drop (0:Int).toNat (List.take x3.toNat x0))) (none))
def la.l2(N:Nat):Nat→la.bT
 |0,_,_=>none
 |n+1,x0,x3=>la.dA N (la.l2 N n) x0 x3
def la.b(N:Nat)(eI:la.bT)(a0:List (Int)):Option (List (Int)):=
 eI a0 (List.length a0:Int)
def la(N:Nat)(a0:List (Int)):Option (List (Int)):=la.b N (la.l2 N N) a0
def F67(N:Nat)(a0:Int):Option (List (Int)):=
 cond (aG 32 0) (none) ((la N ([(jH .and .u64 a0 4294967295),(shr .u64 a0 32)])).bind fun r3=>some r3)
def OP(N:Nat)(a0:Bool)(a1:List (Int)):Option ax:=
 (la N a1).bind fun r1=>cond (a0) (some (aG 0 (List.length r1:Int),(r1,()))) (some (false,(r1,())))
def fQ(N:Nat)(a0:Int):Option ax:=
 let v1:Int:=W .u64 a0;cond (aG a0 0) ((F67 N (W .u64 (0-v1))).bind fun r3=>(OP N (aG a0 0) r3).bind fun r4=>some r4) ((F67 N v1).bind fun r5=>(OP N (aG a0 0) r5).bind fun r6=>some r6)
def Qn(N:Nat)(a0:ax):Option ax:=
 (OP N (!a0.1) a0.2.1).bind fun r1=>some r1
def BW(N:Nat)(a0:Int)(a1:Int)(a2:Int)(a3:Int)(a4:ax):Option bx:=
 (Qn N a4).bind fun r1=>some ([(a0,(a1,(r1,()))),(a2,(a3,(a4,())))])
def Vd(N:Nat)(a0:List (Int))(a1:Int):Option (Int):=
 cond (aG a1 (List.length a0:Int)) (cond (aI a1 (List.length a0)) (some (List.getD a0 a1.toNat (0:Int))) (none)) (some (0:Int))
abbrev rD.Ms:=(List (Int))→(List (Int))→(List (Int))→Int→Int→Option (List (Int))
abbrev rD.aY:=(List (Int))→(List (Int))→(List (Int))→Int→Int→Option (List (Int))
def rD.KB(N:Nat)(bA:rD.aY)(x0:List (Int))(x1:List (Int))(x5:List (Int))(x6:Int)(x7:Int):Option (List (Int)):=
 (Vd N x0 x7).bind fun r3=>(Vd N x1 x7).bind fun r4=>let v6:Int:=W .u64 (x6+(W .u64 (r3+r4)));let v7:Int:=jH .and .u64 v6 4294967295;cond (small (List.length x5+List.length ([v7]))) (cond (aG 32 0) (none) (bA x0 x1 (x5++([v7])) (shr .u64 v6 32) (W .i64 (x7+1)))) (none)
def rD.j6(N:Nat)(bA:rD.aY)(x0:List (Int))(x1:List (Int))(x5:List (Int))(x6:Int)(x7:Int):Option (List (Int)):=rD.KB N bA x0 x1 x5 x6 x7
def rD.cD(N:Nat)(xB:rD.Ms)(bA:rD.aY)(x0:List (Int))(x1:List (Int))(x5:List (Int))(x6:Int)(x7:Int):Option (List (Int)):=
 cond (aG x7 (List.length x0:Int)) (xB x0 x1 x5 x6 x7) (cond (aG x7 (List.length x1:Int)) (xB x0 x1 x5 x6 x7) (cond (aG 0 x6) (xB x0 x1 x5 x6 x7) (some x5)))
def rD.l4(N:Nat):Nat→rD.aY
 |0,_,_,_,_,_=>none
 |n+1,x0,x1,x5,x6,x7=>rD.cD N (rD.j6 N (rD.l4 N n)) (rD.l4 N n) x0 x1 x5 x6 x7
def rD.b(N:Nat)(c6:rD.aY)(a0:List (Int))(a1:List (Int)):Option (List (Int)):=
 c6 a0 a1 ([]) (0:Int) (0:Int)
def rD(N:Nat)(a0:List (Int))(a1:List (Int)):Option (List (Int)):=rD.b N (rD.l4 N N) a0 a1
abbrev zb.fe:=(List (Int))→(List (Int))→Int→Option (Int)
def zb.pE(N:Nat)(ff:zb.fe)(x0:List (Int))(x1:List (Int))(x5:Int):Option (Int):=
 cond (bX 0 x5) (cond (aI x5 (List.length x0)) (cond (aI x5 (List.length x1)) (cond (aG (List.getD x0 x5.toNat (0:Int)) (List.getD x1 x5.toNat (0:Int))) (some (-1:Int)) (cond (aI x5 (List.length x0)) (cond (aI x5 (List.length x1)) (cond (aG (List.getD x1 x5.toNat (0:Int)) (List.getD x0 x5.toNat (0:Int))) (some (1:Int)) (ff x0 x1 (W .i64 (x5-1)))) (none)) (none))) (none)) (none)) (some (0:Int))
def zb.l6(N:Nat):Nat→zb.fe
 |0,_,_,_=>none
 |n+1,x0,x1,x5=>zb.pE N (zb.l6 N n) x0 x1 x5
def zb.b(N:Nat)(rr:zb.fe)(a0:List (Int))(a1:List (Int)):Option (Int):=
 cond (!aA (List.length a0:Int) (List.length a1:Int)) (cond (aG (List.length a0:Int) (List.length a1:Int)) (some (-1:Int)) (some (1:Int))) (rr a0 a1 (W .i64 ((List.length a0:Int)-1)))
def zb(N:Nat)(a0:List (Int))(a1:List (Int)):Option (Int):=zb.b N (zb.l6 N N) a0 a1
abbrev zG.aY:=(List (Int))→(List (Int))→(List (Int))→Int→Int→Option (List (Int))
def zG.cD(N:Nat)(bA:zG.aY)(x0:List (Int))(x1:List (Int))(x5:List (Int))(x6:Int)(x7:Int):Option (List (Int)):=
 cond (aG x7 (List.length x0:Int)) (cond (aI x7 (List.length x0)) ((Vd N x1 x7).bind fun r2=>let v3:Int:=W .u64 (r2+x6);cond (aG (List.getD x0 x7.toNat (0:Int)) v3) (let v5:Int:=W .u64 ((W .u64 ((List.getD x0 x7.toNat (0:Int))+4294967296))-v3);cond (small (List.length x5+List.length ([v5]))) (bA x0 x1 (x5++([v5])) (1:Int) (W .i64 (x7+1))) (none)) (let v8:Int:=W .u64 ((List.getD x0 x7.toNat (0:Int))-v3);cond (small (List.length x5+List.length ([v8]))) (bA x0 x1 (x5++([v8])) (0:Int) (W .i64 (x7+1))) (none))) (none)) (some x5)
def zG.l4(N:Nat):Nat→zG.aY
 |0,_,_,_,_,_=>none
 |n+1,x0,x1,x5,x6,x7=>zG.cD N (zG.l4 N n) x0 x1 x5 x6 x7
def zG.b(N:Nat)(c6:zG.aY)(a0:List (Int))(a1:List (Int)):Option (List (Int)):=
 c6 a0 a1 ([]) (0:Int) (0:Int)
def zG(N:Nat)(a0:List (Int))(a1:List (Int)):Option (List (Int)):=zG.b N (zG.l4 N N) a0 a1
def uc(N:Nat)(a0:ax)(a1:ax):Option ax:=
 cond (jT .bool a0.1 a1.1) ((rD N a0.2.1 a1.2.1).bind fun r1=>(OP N a0.1 r1).bind fun r2=>some r2) ((zb N a0.2.1 a1.2.1).bind fun r3=>cond (bX 0 r3) ((zG N a0.2.1 a1.2.1).bind fun r4=>(OP N a0.1 r4).bind fun r5=>some r5) ((zG N a1.2.1 a0.2.1).bind fun r6=>(OP N a1.1 r6).bind fun r7=>some r7))
def sx(N:Nat)(a0:ax):Option ((Int)×(Bool)):=
 cond (aG 2 (List.length a0.2.1:Int)) (some ((0:Int),false)) ((Vd N a0.2.1 (0:Int)).bind fun r1=>(Vd N a0.2.1 (1:Int)).bind fun r2=>cond (aG 32 0) (none) (let v4:Int:=jH .or .u64 r1 (W .u64 (shl .u64 r2 32));cond (a0.1) (cond (aG 9223372036854775808 v4) (some ((0:Int),false)) (some ((W .i64 (W .u64 (0-v4))),true))) (cond (aG 9223372036854775807 v4) (some ((0:Int),false)) (some ((W .i64 v4),true)))))
def Lr(N:Nat)(a0:ax):Option ((Int)×(Bool)):=
 (sx N a0).bind fun r1=>cond (!r1.2) (some ((0:Int),false)) (cond (aA r1.1 (-9223372036854775808)) (some ((0:Int),false)) (some (r1.1,true)))
abbrev bM.Cd:=aj→aj→aj→Int→Int→Int→Int→Bool→ax→Int→Option (aj×(Bool))
abbrev bM.I4:=aj→aj→aj→Int→Int→Int→Int→Bool→Option (aj×(Bool))
abbrev bM.dq:=aj→aj→aj→Int→Int→Int→Option (aj×(Bool))
abbrev bM.aY:=aj→aj→aj→Int→Int→Option (aj×(Bool))
def bM.Fv(N:Nat)(bA:bM.aY)(df:bM.dq)(EC:bM.Cd)(x0:aj)(x1:aj)(x6:aj)(x7:Int)(x8:Int)(x9:Int)(aQ:Int)(aK:Bool)(aP:ax)(bn:Int):Option (aj×(Bool)):=
 cond (aG bn (List.length x1:Int)) (cond (aI bn (List.length x1)) (cond (aA ((List.getD x1 bn.toNat aM).1) x8) (cond (aI bn (List.length x1)) (cond (aA (((List.getD x1 bn.toNat aM).2).1) x9) (cond (aI bn (List.length x1)) ((fQ N ((((List.getD x1 bn.toNat aM).2).2).1)).bind fun r6=>(uc N aP r6).bind fun r7=>EC x0 x1 x6 x7 x8 x9 aQ true r7 (W .i64 (bn+1))) (none)) (EC x0 x1 x6 x7 x8 x9 aQ aK aP (W .i64 (bn+1)))) (none)) (EC x0 x1 x6 x7 x8 x9 aQ aK aP (W .i64 (bn+1)))) (none)) (cond (aK) ((fQ N aQ).bind fun jV=>(uc N aP jV).bind fun iX=>(Lr N iX).bind fun jE=>cond (!jE.2) (some ([],false)) (cond (!aA jE.1 0) (cond (small (List.length x6+List.length ([(x8,(x9,(jE.1,())))]))) (df x0 x1 (x6++([(x8,(x9,(jE.1,())))])) x7 x8 (W .i64 (x9+1))) (none)) (df x0 x1 x6 x7 x8 (W .i64 (x9+1))))) (cond (!aA aQ 0) (cond (small (List.length x6+List.length ([(x8,(x9,(aQ,())))]))) (df x0 x1 (x6++([(x8,(x9,(aQ,())))])) x7 x8 (W .i64 (x9+1))) (none)) (df x0 x1 x6 x7 x8 (W .i64 (x9+1)))))
def bM.Gw(N:Nat)(bA:bM.aY)(df:bM.dq):Nat→bM.Cd
 |0,_,_,_,_,_,_,_,_,_,_=>none
 |n+1,x0,x1,x6,x7,x8,x9,aQ,aK,aP,bn=>bM.Fv N bA df (bM.Gw N bA df n) x0 x1 x6 x7 x8 x9 aQ aK aP bn
def bM.vM(N:Nat)(TB:bM.Cd)(bA:bM.aY)(df:bM.dq)(x0:aj)(x1:aj)(x6:aj)(x7:Int)(x8:Int)(x9:Int)(aQ:Int)(aK:Bool):Option (aj×(Bool)):=
 TB x0 x1 x6 x7 x8 x9 aQ aK (false,kV) (0:Int)
def bM.Fk(N:Nat)(bA:bM.aY)(df:bM.dq)(x0:aj)(x1:aj)(x6:aj)(x7:Int)(x8:Int)(x9:Int)(aQ:Int)(aK:Bool):Option (aj×(Bool)):=bM.vM N (bM.Gw N bA df N) bA df x0 x1 x6 x7 x8 x9 aQ aK
def bM.mE(N:Nat)(rF:bM.I4)(bA:bM.aY)(df:bM.dq)(x0:aj)(x1:aj)(x6:aj)(x7:Int)(x8:Int)(x9:Int):Option (aj×(Bool)):=
 cond (aG x9 6) (cond (aG x7 (List.length x0:Int)) (cond (aI x7 (List.length x0)) (cond (aA ((List.getD x0 x7.toNat aM).1) x8) (cond (aI x7 (List.length x0)) (cond (aA (((List.getD x0 x7.toNat aM).2).1) x9) (cond (aI x7 (List.length x0)) (rF x0 x1 x6 (W .i64 (x7+1)) x8 x9 ((((List.getD x0 x7.toNat aM).2).2).1) false) (none)) (rF x0 x1 x6 x7 x8 x9 (0:Int) false)) (none)) (rF x0 x1 x6 x7 x8 x9 (0:Int) false)) (none)) (rF x0 x1 x6 x7 x8 x9 (0:Int) false)) (bA x0 x1 x6 x7 (W .i64 (x8+1)))
def bM.l7(N:Nat)(bA:bM.aY):Nat→bM.dq
 |0,_,_,_,_,_,_=>none
 |n+1,x0,x1,x6,x7,x8,x9=>bM.mE N (bM.Fk N bA (bM.l7 N bA n)) bA (bM.l7 N bA n) x0 x1 x6 x7 x8 x9
def bM.cD(N:Nat)(pJ:bM.dq)(bA:bM.aY)(x0:aj)(x1:aj)(x6:aj)(x7:Int)(x8:Int):Option (aj×(Bool)):=
 cond (bX x8 24) (pJ x0 x1 x6 x7 x8 (0:Int)) (some (x6,true))
def bM.l4(N:Nat):Nat→bM.aY
 |0,_,_,_,_,_=>none
 |n+1,x0,x1,x6,x7,x8=>bM.cD N (bM.l7 N (bM.l4 N n) N) (bM.l4 N n) x0 x1 x6 x7 x8
def bM.b(N:Nat)(c6:bM.aY)(a0:aj)(a1:aj):Option (aj×(Bool)):=
 c6 a0 a1 ([]) (0:Int) (0:Int)
def bM(N:Nat)(a0:aj)(a1:aj):Option (aj×(Bool)):=bM.b N (bM.l4 N N) a0 a1
abbrev ku.c0:=Int→Int→Int→bx→ax→Bool→Int→Option ((Int)×(Bool))
def ku.jU(N:Nat)(cG:ku.c0)(x0:Int)(x1:Int)(x2:Int)(x3:bx)(aQ:ax)(aK:Bool)(aP:Int):Option ((Int)×(Bool)):=
 cond (aG aP (List.length x3:Int)) (cond (aI aP (List.length x3)) (cond (aA ((List.getD x3 aP.toNat ((0:Int),((0:Int),((false,kV),())))).1) x1) (cond (aI aP (List.length x3)) (cond (aA (((List.getD x3 aP.toNat ((0:Int),((0:Int),((false,kV),())))).2).1) x2) (cond (aI aP (List.length x3)) ((uc N aQ ((((List.getD x3 aP.toNat ((0:Int),((0:Int),((false,kV),())))).2).2).1)).bind fun r2=>cG x0 x1 x2 x3 r2 true (W .i64 (aP+1))) (none)) (cG x0 x1 x2 x3 aQ aK (W .i64 (aP+1)))) (none)) (cG x0 x1 x2 x3 aQ aK (W .i64 (aP+1)))) (none)) (cond (!aK) (some (x0,true)) ((fQ N x0).bind fun r6=>(uc N aQ r6).bind fun r7=>(sx N r7).bind fun r8=>some (r8.1,r8.2)))
def ku.l3(N:Nat):Nat→ku.c0
 |0,_,_,_,_,_,_,_=>none
 |n+1,x0,x1,x2,x3,aQ,aK,aP=>ku.jU N (ku.l3 N n) x0 x1 x2 x3 aQ aK aP
def ku.b(N:Nat)(lC:ku.c0)(a0:Int)(a1:Int)(a2:Int)(a3:bx):Option ((Int)×(Bool)):=
 lC a0 a1 a2 a3 (false,kV) false (0:Int)
def ku(N:Nat)(a0:Int)(a1:Int)(a2:Int)(a3:bx):Option ((Int)×(Bool)):=ku.b N (ku.l3 N N) a0 a1 a2 a3
abbrev cL.I4:=aj→bx→aj→Int→Int→Int→Int→Option (aj×(Bool))
abbrev cL.dq:=aj→bx→aj→Int→Int→Int→Option (aj×(Bool))
abbrev cL.aY:=aj→bx→aj→Int→Int→Option (aj×(Bool))
def cL.vM(N:Nat)(bA:cL.aY)(df:cL.dq)(x0:aj)(x1:bx)(x6:aj)(x7:Int)(x8:Int)(x9:Int)(aQ:Int):Option (aj×(Bool)):=
 (ku N aQ x8 x9 x1).bind fun r5=>cond (!r5.2) (some ([],false)) (cond (!aA r5.1 0) (cond (small (List.length x6+List.length ([(x8,(x9,(r5.1,())))]))) (df x0 x1 (x6++([(x8,(x9,(r5.1,())))])) x7 x8 (W .i64 (x9+1))) (none)) (df x0 x1 x6 x7 x8 (W .i64 (x9+1))))
def cL.Fk(N:Nat)(bA:cL.aY)(df:cL.dq)(x0:aj)(x1:bx)(x6:aj)(x7:Int)(x8:Int)(x9:Int)(aQ:Int):Option (aj×(Bool)):=cL.vM N bA df x0 x1 x6 x7 x8 x9 aQ
def cL.mE(N:Nat)(rF:cL.I4)(bA:cL.aY)(df:cL.dq)(x0:aj)(x1:bx)(x6:aj)(x7:Int)(x8:Int)(x9:Int):Option (aj×(Bool)):=
 cond (bX x9 24) (cond (aG x7 (List.length x0:Int)) (cond (aI x7 (List.length x0)) (cond (aA ((List.getD x0 x7.toNat aM).1) x8) (cond (aI x7 (List.length x0)) (cond (aA (((List.getD x0 x7.toNat aM).2).1) x9) (cond (aI x7 (List.length x0)) (rF x0 x1 x6 (W .i64 (x7+1)) x8 x9 ((((List.getD x0 x7.toNat aM).2).2).1)) (none)) (rF x0 x1 x6 x7 x8 x9 (0:Int))) (none)) (rF x0 x1 x6 x7 x8 x9 (0:Int))) (none)) (rF x0 x1 x6 x7 x8 x9 (0:Int))) (bA x0 x1 x6 x7 (W .i64 (x8+1)))
def cL.l7(N:Nat)(bA:cL.aY):Nat→cL.dq
 |0,_,_,_,_,_,_=>none
 |n+1,x0,x1,x6,x7,x8,x9=>cL.mE N (cL.Fk N bA (cL.l7 N bA n)) bA (cL.l7 N bA n) x0 x1 x6 x7 x8 x9
def cL.cD(N:Nat)(pJ:cL.dq)(bA:cL.aY)(x0:aj)(x1:bx)(x6:aj)(x7:Int)(x8:Int):Option (aj×(Bool)):=
 cond (bX x8 7) (pJ x0 x1 x6 x7 x8 (0:Int)) (some (x6,true))
def cL.l4(N:Nat):Nat→cL.aY
 |0,_,_,_,_,_=>none
 |n+1,x0,x1,x6,x7,x8=>cL.cD N (cL.l7 N (cL.l4 N n) N) (cL.l4 N n) x0 x1 x6 x7 x8
def cL.b(N:Nat)(c6:cL.aY)(a0:aj)(a1:bx):Option (aj×(Bool)):=
 c6 a0 a1 ([]) (0:Int) (1:Int)
def cL(N:Nat)(a0:aj)(a1:bx):Option (aj×(Bool)):=cL.b N (cL.l4 N N) a0 a1
def xl(N:Nat)(a0:ag)(a1:aj)(a2:bx):Option (ag×(Int)):=
 (bM N a0.2.2.2.1 a1).bind fun r1=>cond (!r1.2) (some ((bE,(cg,(aX,(aX,(cC,(cK,())))))),(2:Int))) ((cL N a0.2.2.1 a2).bind fun r2=>cond (!r2.2) (some ((bE,(cg,(aX,(aX,(cC,(cK,())))))),(2:Int))) (some ((a0.1,(a0.2.1,(r2.1,(r1.1,a0.2.2.2.2)))),(0:Int))))
def P4(N:Nat)(a0:aR)(a1:Int)(a2:Int)(a3:Int)(a4:Int)(a5:Int):Option (aR×bY):=
 (fQ N a5).bind fun r1=>(BW N a1 a2 a3 a4 r1).bind fun r2=>(xl N a0.2.2.1 aX r2).bind fun r3=>some ((a0.1,(a0.2.1,(r3.1,a0.2.2.2))),(r3.2,bL))
abbrev mg.bf:=aj→Int→ax→ax→Int→Option ax
def mg.c7(N:Nat)(bh:mg.bf)(x0:aj)(x1:Int)(x4:ax)(x5:ax)(x6:Int):Option ax:=
 cond (aG x6 (List.length x0:Int)) (cond (aI x6 (List.length x0)) (cond (aA (((List.getD x0 x6.toNat aM).2).1) x1) (cond (aI x6 (List.length x0)) ((fQ N ((((List.getD x0 x6.toNat aM).2).2).1)).bind fun r3=>(uc N x5 r3).bind fun r4=>bh x0 x1 x4 r4 (W .i64 (x6+1))) (none)) (bh x0 x1 x4 x5 (W .i64 (x6+1)))) (none)) (some x5)
def mg.l5(N:Nat):Nat→mg.bf
 |0,_,_,_,_,_=>none
 |n+1,x0,x1,x4,x5,x6=>mg.c7 N (mg.l5 N n) x0 x1 x4 x5 x6
def mg.b(N:Nat)(dw:mg.bf)(a0:aj)(a1:Int):Option ax:=
 (vd N a0).bind fun r1=>cond (!r1) (some (false,kV)) (dw a0 a1 (false,kV) (false,kV) (0:Int))
def mg(N:Nat)(a0:aj)(a1:Int):Option ax:=mg.b N (mg.l5 N N) a0 a1
def Nl(N:Nat)(a0:ax):Option (Int):=
 cond (aA (List.length a0.2.1:Int) 0) (some (0:Int)) (cond (a0.1) (some (-1:Int)) (some (1:Int)))
abbrev mN.bT:=aj→Int→Option (Bool)
def mN.dA(N:Nat)(cS:mN.bT)(x0:aj)(x3:Int):Option (Bool):=
 cond (aG x3 6) ((mg N x0 x3).bind fun r2=>(Nl N r2).bind fun r3=>cond (!aA r3 0) (some false) (cS x0 (W .i64 (x3+1)))) ((vd N x0).bind fun r5=>some r5)
def mN.l2(N:Nat):Nat→mN.bT
 |0,_,_=>none
 |n+1,x0,x3=>mN.dA N (mN.l2 N n) x0 x3
def mN.b(N:Nat)(eI:mN.bT)(a0:aj):Option (Bool):=
 eI a0 (0:Int)
def mN(N:Nat)(a0:aj):Option (Bool):=mN.b N (mN.l2 N N) a0
def ze(N:Nat)(a0:Int):Option (Bool):=
 cond (bX 1 a0) (some (bX a0 1000000000000)) (some false)
def Lj(N:Nat)(a0:cr):Option (Bool):=
 cond (bX 1 a0.1) (cond (bX a0.1 1099511627776) (cond (bX 1 a0.2.1) (cond (bX a0.2.1 24) (cond (bX 0 a0.2.2.1) (cond (aG a0.2.2.1 6) (cond (aA a0.2.2.2.1 1) (cond (bX 1 a0.2.2.2.2.1) (cond (bX a0.2.2.2.2.1 1000000000) ((ze N a0.2.2.2.2.2.1).bind fun r1=>some r1) (some false)) (some false)) (cond (aA a0.2.2.2.1 2) (cond (bX 1 a0.2.2.2.2.1) (cond (bX a0.2.2.2.2.1 1000000000) ((ze N a0.2.2.2.2.2.1).bind fun r2=>some r2) (some false)) (some false)) (some false))) (some false)) (some false)) (some false)) (some false)) (some false)) (some false)
abbrev jL.aY:=aU→Int→Option (Bool)
def jL.cD(N:Nat)(bA:jL.aY)(x0:aU)(x3:Int):Option (Bool):=
 cond (aG x3 (List.length x0:Int)) (cond (aI x3 (List.length x0)) ((Lj N (List.getD x0 x3.toNat dT)).bind fun r2=>cond (!r2) (some false) (cond (aG 0 x3) (cond (aI x3 (List.length x0)) (let v3:Int:=W .i64 (x3-1);cond (aI v3 (List.length x0)) (cond (bX ((List.getD x0 x3.toNat dT).1) ((List.getD x0 v3.toNat dT).1)) (some false) (bA x0 (W .i64 (x3+1)))) (none)) (none)) (bA x0 (W .i64 (x3+1))))) (none)) (some true)
def jL.l4(N:Nat):Nat→jL.aY
 |0,_,_=>none
 |n+1,x0,x3=>jL.cD N (jL.l4 N n) x0 x3
def jL.b(N:Nat)(c6:jL.aY)(a0:aU):Option (Bool):=
 cond (aG 32 (List.length a0:Int)) (some false) (c6 a0 (0:Int))
def jL(N:Nat)(a0:aU):Option (Bool):=jL.b N (jL.l4 N N) a0
abbrev me.bf:=aj→ax→ax→Int→Option ax
def me.c7(N:Nat)(bh:me.bf)(x0:aj)(x2:ax)(x3:ax)(x4:Int):Option ax:=
 cond (aG x4 (List.length x0:Int)) (cond (aI x4 (List.length x0)) ((fQ N ((((List.getD x0 x4.toNat aM).2).2).1)).bind fun r3=>(uc N x3 r3).bind fun r4=>bh x0 x2 r4 (W .i64 (x4+1))) (none)) (some x3)
def me.l5(N:Nat):Nat→me.bf
 |0,_,_,_,_=>none
 |n+1,x0,x2,x3,x4=>me.c7 N (me.l5 N n) x0 x2 x3 x4
def me.b(N:Nat)(dw:me.bf)(a0:aj):Option ax:=
 (xc N a0).bind fun r1=>cond (!r1) (some (false,kV)) (dw a0 (false,kV) (false,kV) (0:Int))
def me(N:Nat)(a0:aj):Option ax:=me.b N (me.l5 N N) a0
def Fp(N:Nat)(a0:ag)(a1:Int):Option (Bool):=
 (A0 N a0.2.1 a1).bind fun r1=>cond (r1.2) (some true) (some (aA a1 0))
def vS(N:Nat)(a0:av)(a1:Int):Option (Int):=
 (kL N a0).bind fun r1=>cond (!r1) (some (0:Int)) ((jM N a0 a1).bind fun r2=>some r2)
abbrev bS.oA:=aa→ag→Int→Option (Bool)
abbrev bS.B7:=aa→ag→Int→Option (Bool)
abbrev bS.e7:=aa→ag→Int→Option (Bool)
abbrev bS.fe:=aa→ag→Int→Option (Bool)
def bS.sD(N:Nat)(B3:bS.oA)(x2:aa)(x3:ag)(x9:Int):Option (Bool):=
 cond (aG x9 (List.length x3.2.2.2.2.2.1:Int)) (cond (aI x9 (List.length x3.2.2.2.2.2.1)) ((Fp N x3 (((List.getD x3.2.2.2.2.2.1 x9.toNat dT).2).1)).bind fun Qa=>cond (!Qa) (some false) (cond (aI x9 (List.length x3.2.2.2.2.2.1)) (cond (bX (List.length x2.1:Int) ((((List.getD x3.2.2.2.2.2.1 x9.toNat dT).2).2).1)) (some false) (B3 x2 x3 (W .i64 (x9+1)))) (none))) (none)) (some true)
def bS.tL(N:Nat):Nat→bS.oA
 |0,_,_,_=>none
 |n+1,x2,x3,x9=>bS.sD N (bS.tL N n) x2 x3 x9
def bS.HF(N:Nat)(B5:bS.oA)(NU:bS.B7)(x2:aa)(x3:ag)(x8:Int):Option (Bool):=
 cond (aG x8 (List.length x3.2.2.2.2.1:Int)) (cond (aI x8 (List.length x3.2.2.2.2.1)) ((ze N (List.getD x3.2.2.2.2.1 x8.toNat (0:Int))).bind fun Gy=>cond (!Gy) (some false) (NU x2 x3 (W .i64 (x8+1)))) (none)) (B5 x2 x3 (0:Int))
def bS.HE(N:Nat):Nat→bS.B7
 |0,_,_,_=>none
 |n+1,x2,x3,x8=>bS.HF N (bS.tL N N) (bS.HE N n) x2 x3 x8
def bS.jh(N:Nat)(Tq:bS.B7)(gV:bS.e7)(x2:aa)(x3:ag)(x7:Int):Option (Bool):=
 cond (aG x7 (List.length x3.2.2.2.1:Int)) (cond (aI x7 (List.length x3.2.2.2.1)) ((Fp N x3 ((List.getD x3.2.2.2.1 x7.toNat aM).1)).bind fun KG=>cond (!KG) (some false) (cond (aI x7 (List.length x3.2.2.2.1)) (cond (bX (List.length x2.1:Int) (((List.getD x3.2.2.2.1 x7.toNat aM).2).1)) (some false) (gV x2 x3 (W .i64 (x7+1)))) (none))) (none)) (Tq x2 x3 (0:Int))
def bS.kk(N:Nat):Nat→bS.e7
 |0,_,_,_=>none
 |n+1,x2,x3,x7=>bS.jh N (bS.HE N N) (bS.kk N n) x2 x3 x7
def bS.pE(N:Nat)(qm:bS.e7)(ff:bS.fe)(x2:aa)(x3:ag)(x5:Int):Option (Bool):=
 cond (aG x5 (List.length x3.2.2.1:Int)) (cond (aI x5 (List.length x3.2.2.1)) (cond (aA ((List.getD x3.2.2.1 x5.toNat aM).1) (5:Int)) ((Fp N x3 (((List.getD x3.2.2.1 x5.toNat aM).2).1)).bind fun r9=>cond (!r9) (some false) (cond (aA ((List.getD x3.2.2.1 x5.toNat aM).1) (6:Int)) ((vS N x3.1 (((List.getD x3.2.2.1 x5.toNat aM).2).1)).bind fun gA=>cond (aA gA 0) (some false) (ff x2 x3 (W .i64 (x5+1)))) (cond (aA ((List.getD x3.2.2.1 x5.toNat aM).1) (7:Int)) ((vS N x3.1 (((List.getD x3.2.2.1 x5.toNat aM).2).1)).bind fun iX=>cond (aA iX 0) (some false) (ff x2 x3 (W .i64 (x5+1)))) (ff x2 x3 (W .i64 (x5+1)))))) (cond (aA ((List.getD x3.2.2.1 x5.toNat aM).1) (6:Int)) ((vS N x3.1 (((List.getD x3.2.2.1 x5.toNat aM).2).1)).bind fun ob=>cond (aA ob 0) (some false) (ff x2 x3 (W .i64 (x5+1)))) (cond (aA ((List.getD x3.2.2.1 x5.toNat aM).1) (7:Int)) ((vS N x3.1 (((List.getD x3.2.2.1 x5.toNat aM).2).1)).bind fun rO=>cond (aA rO 0) (some false) (ff x2 x3 (W .i64 (x5+1)))) (ff x2 x3 (W .i64 (x5+1)))))) (none)) (qm x2 x3 (0:Int))
def bS.l6(N:Nat):Nat→bS.fe
 |0,_,_,_=>none
 |n+1,x2,x3,x5=>bS.pE N (bS.kk N N) (bS.l6 N n) x2 x3 x5
def bS.b(N:Nat)(rr:bS.fe)(a0:aa)(a1:ag):Option (Bool):=
 (jd N a0).bind fun r1=>cond (!r1) (some false) ((ll N a1.1 a1.2.1).bind fun r2=>cond (!r2) (some false) ((xc N a1.2.2.1).bind fun r3=>cond (!r3) (some false) ((mN N a1.2.2.2.1).bind fun r4=>cond (!r4) (some false) ((jL N a1.2.2.2.2.2.1).bind fun r5=>cond (!r5) (some false) (cond (!aA (List.length a1.2.2.2.2.1:Int) (List.length a0.1:Int)) (some false) ((me N a1.2.2.1).bind fun r6=>(Nl N r6).bind fun r7=>cond (!aA r7 0) (some false) (rr a0 a1 (0:Int))))))))
def bS(N:Nat)(a0:aa)(a1:ag):Option (Bool):=bS.b N (bS.l6 N N) a0 a1
def KC(N:Nat)(a0:ax)(a1:ax):Option ax:=
 (Qn N a1).bind fun r1=>(uc N a0 r1).bind fun r2=>some r2
abbrev ug.bf:=aj→Int→av→Int→Option av
def ug.c7(N:Nat)(bh:ug.bf)(x0:aj)(x1:Int)(x5:av)(x6:Int):Option av:=
 cond (aG x6 (List.length x0:Int)) (cond (aI x6 (List.length x0)) (cond (aA ((List.getD x0 x6.toNat aM).1) x1) (cond (aI x6 (List.length x0)) (cond (aI x6 (List.length x0)) (cond (small (List.length x5+List.length ([(((List.getD x0 x6.toNat aM).2).1,((((List.getD x0 x6.toNat aM).2).2).1,()))]))) (bh x0 x1 (x5++([(((List.getD x0 x6.toNat aM).2).1,((((List.getD x0 x6.toNat aM).2).2).1,()))])) (W .i64 (x6+1))) (none)) (none)) (none)) (bh x0 x1 x5 (W .i64 (x6+1)))) (none)) (some x5)
def ug.l5(N:Nat):Nat→ug.bf
 |0,_,_,_,_=>none
 |n+1,x0,x1,x5,x6=>ug.c7 N (ug.l5 N n) x0 x1 x5 x6
def ug.b(N:Nat)(dw:ug.bf)(a0:aj)(a1:Int):Option av:=
 (vd N a0).bind fun r1=>cond (!r1) (some ([])) (dw a0 a1 ([]) (0:Int))
def ug(N:Nat)(a0:aj)(a1:Int):Option av:=ug.b N (ug.l5 N N) a0 a1
abbrev dp.dq:=aU→Int→aj→Int→bY→Int→Option aj
abbrev dp.c0:=aU→Int→aj→Int→Option aj
def dp.mE(N:Nat)(cG:dp.c0)(df:dp.dq)(x0:aU)(x1:Int)(x5:aj)(x6:Int)(x7:bY)(x8:Int):Option aj:=
 cond (aG x8 (List.length x0:Int)) (cond (aI x8 (List.length x0)) (cond (!aA (((List.getD x0 x8.toNat dT).2).1) x1) (df x0 x1 x5 x6 x7 (W .i64 (x8+1))) (cond (aI x8 (List.length x0)) (cond (!aA ((((List.getD x0 x8.toNat dT).2).2).1) x6) (df x0 x1 x5 x6 x7 (W .i64 (x8+1))) (cond (aI x8 (List.length x0)) (cond (aA (((((List.getD x0 x8.toNat dT).2).2).2).1) (1:Int)) (cond (aI x8 (List.length x0)) (df x0 x1 x5 x6 (x7.1,((W .i64 (x7.2.1+((((((List.getD x0 x8.toNat dT).2).2).2).2).1))),x7.2.2)) (W .i64 (x8+1))) (none)) (cond (aI x8 (List.length x0)) (df x0 x1 x5 x6 (x7.1,(x7.2.1,((W .i64 (x7.2.2.1+((((((List.getD x0 x8.toNat dT).2).2).2).2).1))),x7.2.2.2))) (W .i64 (x8+1))) (none))) (none))) (none))) (none)) (cond (aG 0 x7.2.1) (cond (small (List.length x5+List.length ([x7]))) (cG x0 x1 (x5++([x7])) (W .i64 (x6+1))) (none)) (cond (aG 0 x7.2.2.1) (cond (small (List.length x5+List.length ([x7]))) (cG x0 x1 (x5++([x7])) (W .i64 (x6+1))) (none)) (cG x0 x1 x5 (W .i64 (x6+1)))))
def dp.l7(N:Nat)(cG:dp.c0):Nat→dp.dq
 |0,_,_,_,_,_,_=>none
 |n+1,x0,x1,x5,x6,x7,x8=>dp.mE N cG (dp.l7 N cG n) x0 x1 x5 x6 x7 x8
def dp.jU(N:Nat)(pJ:dp.dq)(cG:dp.c0)(x0:aU)(x1:Int)(x5:aj)(x6:Int):Option aj:=
 cond (aG x6 6) (pJ x0 x1 x5 x6 (x6,bL) (0:Int)) (some x5)
def dp.l3(N:Nat):Nat→dp.c0
 |0,_,_,_,_=>none
 |n+1,x0,x1,x5,x6=>dp.jU N (dp.l7 N (dp.l3 N n) N) (dp.l3 N n) x0 x1 x5 x6
def dp.b(N:Nat)(lC:dp.c0)(a0:aU)(a1:Int):Option aj:=
 lC a0 a1 ([]) (0:Int)
def dp(N:Nat)(a0:aU)(a1:Int):Option aj:=dp.b N (dp.l3 N N) a0 a1
abbrev kp.aY:=av→aa→Int→Option (Bool)
def kp.cD(N:Nat)(bA:kp.aY)(x1:av)(x2:aa)(x5:Int):Option (Bool):=
 cond (aG x5 (List.length x1:Int)) (cond (aI x5 (List.length x1)) (cond (aG ((List.getD x1 x5.toNat bL).1) (0:Int)) (some false) (cond (aI x5 (List.length x1)) (cond (bX (List.length x2.1:Int) ((List.getD x1 x5.toNat bL).1)) (some false) (cond (aI x5 (List.length x1)) (cond (aA (((List.getD x1 x5.toNat bL).2).1) (0:Int)) (some false) (cond (aI x5 (List.length x1)) (cond (aA (((List.getD x1 x5.toNat bL).2).1) (-9223372036854775808:Int)) (some false) (cond (aG 0 x5) (cond (aI x5 (List.length x1)) (let v3:Int:=W .i64 (x5-1);cond (aI v3 (List.length x1)) (cond (bX ((List.getD x1 x5.toNat bL).1) ((List.getD x1 v3.toNat bL).1)) (some false) (bA x1 x2 (W .i64 (x5+1)))) (none)) (none)) (bA x1 x2 (W .i64 (x5+1))))) (none))) (none))) (none))) (none)) (some true)
def kp.l4(N:Nat):Nat→kp.aY
 |0,_,_,_=>none
 |n+1,x1,x2,x5=>kp.cD N (kp.l4 N n) x1 x2 x5
def kp.b(N:Nat)(c6:kp.aY)(a0:aa)(a1:av):Option (Bool):=
 (jd N a0).bind fun r1=>cond (!r1) (some false) (c6 a1 a0 (0:Int))
def kp(N:Nat)(a0:aa)(a1:av):Option (Bool):=kp.b N (kp.l4 N N) a0 a1
abbrev iO.bf:=aj→aa→Int→Int→Option (Bool)
def iO.c7(N:Nat)(bh:iO.bf)(x1:aj)(x2:aa)(x5:Int)(x6:Int):Option (Bool):=
 cond (aG x6 (List.length x1:Int)) (cond (aI x6 (List.length x1)) (cond (aG ((List.getD x1 x6.toNat aM).1) (0:Int)) (some false) (cond (bX (List.length x2.1:Int) ((List.getD x1 x6.toNat aM).1)) (some false) (cond (aG (((List.getD x1 x6.toNat aM).2).1) (0:Int)) (some false) (cond (aG x5 (((List.getD x1 x6.toNat aM).2).1)) (some false) (cond (aG ((((List.getD x1 x6.toNat aM).2).2).1) (0:Int)) (some false) (cond (aG x5 ((((List.getD x1 x6.toNat aM).2).2).1)) (some false) (cond (aA (((List.getD x1 x6.toNat aM).2).1) (0:Int)) (cond (aA ((((List.getD x1 x6.toNat aM).2).2).1) (0:Int)) (some false) (cond (aG 0 x6) (let v3:Int:=W .i64 (x6-1);cond (aI v3 (List.length x1)) (cond (bX ((List.getD x1 x6.toNat aM).1) ((List.getD x1 v3.toNat aM).1)) (some false) (bh x1 x2 x5 (W .i64 (x6+1)))) (none)) (bh x1 x2 x5 (W .i64 (x6+1))))) (cond (aG 0 x6) (let v6:Int:=W .i64 (x6-1);cond (aI v6 (List.length x1)) (cond (bX ((List.getD x1 x6.toNat aM).1) ((List.getD x1 v6.toNat aM).1)) (some false) (bh x1 x2 x5 (W .i64 (x6+1)))) (none)) (bh x1 x2 x5 (W .i64 (x6+1))))))))))) (none)) (some true)
def iO.l5(N:Nat):Nat→iO.bf
 |0,_,_,_,_=>none
 |n+1,x1,x2,x5,x6=>iO.c7 N (iO.l5 N n) x1 x2 x5 x6
def iO.b(N:Nat)(dw:iO.bf)(a0:aa)(a1:aj):Option (Bool):=
 (jd N a0).bind fun r1=>cond (!r1) (some false) (dw a1 a0 (33000000000:Int) (0:Int))
def iO(N:Nat)(a0:aa)(a1:aj):Option (Bool):=iO.b N (iO.l5 N N) a0 a1
def OQ(N:Nat)(a0:ax):Option ax:=
 (OP N false a0.2.1).bind fun r1=>some r1
def DB(N:Nat)(a0:ax)(a1:ax):Option (Int):=
 (KC N a0 a1).bind fun r1=>(Nl N r1).bind fun r2=>some r2
abbrev dM.e7:=aj→Int→ax→ax→ax→ax→Int→Option (ax×(Int))
abbrev dM.dq:=av→aj→Int→ax→ax→ax→ax→Int→Option (ax×(Int))
def dM.jh(N:Nat)(gV:dM.e7)(x2:aj)(x3:Int)(x8:ax)(aQ:ax)(aK:ax)(aP:ax)(bu:Int):Option (ax×(Int)):=
 cond (aG bu (List.length x2:Int)) (cond (aI bu (List.length x2)) (cond (aA ((List.getD x2 bu.toNat aM).1) x3) (cond (aI bu (List.length x2)) ((fQ N (((List.getD x2 bu.toNat aM).2).1)).bind fun r8=>cond (aI bu (List.length x2)) ((fQ N ((((List.getD x2 bu.toNat aM).2).2).1)).bind fun r9=>gV x2 x3 x8 aQ r8 r9 (W .i64 (bu+1))) (none)) (none)) (gV x2 x3 x8 aQ aK aP (W .i64 (bu+1)))) (none)) ((uc N aQ aK).bind fun iX=>(OQ N iX).bind fun jE=>(KC N aQ aP).bind fun mF=>(OQ N mF).bind fun ob=>(DB N ob jE).bind fun ri=>cond (aG 0 ri) (some (ob,(0:Int))) (some (jE,(0:Int))))
def dM.kk(N:Nat):Nat→dM.e7
 |0,_,_,_,_,_,_,_=>none
 |n+1,x2,x3,x8,aQ,aK,aP,bu=>dM.jh N (dM.kk N n) x2 x3 x8 aQ aK aP bu
def dM.mE(N:Nat)(qm:dM.e7)(df:dM.dq)(x1:av)(x2:aj)(x3:Int)(x8:ax)(aQ:ax)(aK:ax)(aP:ax)(bn:Int):Option (ax×(Int)):=
 cond (aG bn (List.length x1:Int)) (cond (aI bn (List.length x1)) (cond (aA ((List.getD x1 bn.toNat bL).1) x3) (cond (aI bn (List.length x1)) ((fQ N (((List.getD x1 bn.toNat bL).2).1)).bind fun r4=>df x1 x2 x3 x8 r4 aK aP (W .i64 (bn+1))) (none)) (df x1 x2 x3 x8 aQ aK aP (W .i64 (bn+1)))) (none)) (qm x2 x3 x8 aQ aK aP (0:Int))
def dM.l7(N:Nat):Nat→dM.dq
 |0,_,_,_,_,_,_,_,_=>none
 |n+1,x1,x2,x3,x8,aQ,aK,aP,bn=>dM.mE N (dM.kk N N) (dM.l7 N n) x1 x2 x3 x8 aQ aK aP bn
def dM.b(N:Nat)(pJ:dM.dq)(a0:aa)(a1:av)(a2:aj)(a3:Int):Option (ax×(Int)):=
 (kp N a0 a1).bind fun r1=>cond (!r1) (some ((false,kV),(1:Int))) ((iO N a0 a2).bind fun r2=>cond (!r2) (some ((false,kV),(1:Int))) (cond (aG a3 0) (some ((false,kV),(3:Int))) (cond (bX (List.length a0.1:Int) a3) (some ((false,kV),(3:Int))) (pJ a1 a2 a3 (false,kV) (false,kV) (false,kV) (false,kV) (0:Int)))))
def dM(N:Nat)(a0:aa)(a1:av)(a2:aj)(a3:Int):Option (ax×(Int)):=dM.b N (dM.l7 N N) a0 a1 a2 a3
abbrev gf.Mu:=ax→ax→ax→(List (Int))→Int→Int→Int→Option ax
abbrev gf.dq:=ax→ax→ax→(List (Int))→Int→Int→Int→Option ax
abbrev gf.c0:=ax→ax→ax→(List (Int))→Int→Option ax
def gf.La(N:Nat)(cG:gf.c0)(df:gf.dq)(x2:ax)(x3:ax)(x4:ax)(x5:List (Int))(x6:Int)(x7:Int)(x8:Int):Option ax:=
 let v7:Int:=W .i64 (x6+x8);cond (aI v7 (List.length x5)) (cond (aI x6 (List.length x2.2.1)) ((Vd N x3.2.1 x8).bind fun r8=>let v11:Int:=W .u64 (x7+(W .u64 ((List.getD x5 v7.toNat (0:Int))+(W .u64 ((List.getD x2.2.1 x6.toNat (0:Int))*r8)))));let KH:Int:=W .i64 (x6+x8);cond (aI KH (List.length x5)) (cond (aG 32 0) (none) (df x2 x3 x4 (List.set x5 KH.toNat (jH .and .u64 v11 4294967295)) x6 (shr .u64 v11 32) (W .i64 (x8+1)))) (none)) (none)) (none)
def gf.j9(N:Nat)(cG:gf.c0)(df:gf.dq)(x2:ax)(x3:ax)(x4:ax)(x5:List (Int))(x6:Int)(x7:Int)(x8:Int):Option ax:=gf.La N cG df x2 x3 x4 x5 x6 x7 x8
def gf.mE(N:Nat)(Cb:gf.Mu)(cG:gf.c0)(df:gf.dq)(x2:ax)(x3:ax)(x4:ax)(x5:List (Int))(x6:Int)(x7:Int)(x8:Int):Option ax:=
 cond (aG x8 (List.length x3.2.1:Int)) (Cb x2 x3 x4 x5 x6 x7 x8) (cond (aG 0 x7) (Cb x2 x3 x4 x5 x6 x7 x8) (cG x2 x3 x4 x5 (W .i64 (x6+1))))
def gf.l7(N:Nat)(cG:gf.c0):Nat→gf.dq
 |0,_,_,_,_,_,_,_=>none
 |n+1,x2,x3,x4,x5,x6,x7,x8=>gf.mE N (gf.j9 N cG (gf.l7 N cG n)) cG (gf.l7 N cG n) x2 x3 x4 x5 x6 x7 x8
def gf.jU(N:Nat)(pJ:gf.dq)(cG:gf.c0)(x2:ax)(x3:ax)(x4:ax)(x5:List (Int))(x6:Int):Option ax:=
 cond (aG x6 (List.length x2.2.1:Int)) (pJ x2 x3 x4 x5 x6 (0:Int) (0:Int)) ((OP N (!(jT .bool x2.1 x3.1)) x5).bind fun uk=>some uk)
def gf.l3(N:Nat):Nat→gf.c0
 |0,_,_,_,_,_=>none
 |n+1,x2,x3,x4,x5,x6=>gf.jU N (gf.l7 N (gf.l3 N n) N) (gf.l3 N n) x2 x3 x4 x5 x6
def gf.b(N:Nat)(lC:gf.c0)(a0:ax)(a1:ax):Option ax:=
 let v2:Int:=W .i64 ((W .i64 ((List.length a0.2.1:Int)+(List.length a1.2.1:Int)))+1);cond (gg v2 v2) (lC a0 a1 (false,kV) (List.replicate v2.toNat (0:Int)) (0:Int)) (none)
def gf(N:Nat)(a0:ax)(a1:ax):Option ax:=gf.b N (gf.l3 N N) a0 a1
abbrev jm.bf:=av→aj→aa→ax→ax→Int→Option (ax×(Int))
def jm.c7(N:Nat)(bh:jm.bf)(x1:av)(x2:aj)(x3:aa)(x6:ax)(x8:ax)(x9:Int):Option (ax×(Int)):=
 cond (aG x9 (List.length x3.1:Int)) ((dM N x3 x1 x2 x9).bind fun r4=>cond (aI x9 (List.length x3.1)) ((fQ N ((((List.getD x3.1 x9.toNat aJ).2).2).1)).bind fun r5=>(gf N r4.1 r5).bind fun r6=>(uc N x8 r6).bind fun r7=>bh x1 x2 x3 x6 r7 (W .i64 (x9+1))) (none)) (some (x8,(0:Int)))
def jm.l5(N:Nat):Nat→jm.bf
 |0,_,_,_,_,_,_=>none
 |n+1,x1,x2,x3,x6,x8,x9=>jm.c7 N (jm.l5 N n) x1 x2 x3 x6 x8 x9
def jm.b(N:Nat)(dw:jm.bf)(a0:aa)(a1:av)(a2:aj):Option (ax×(Int)):=
 (kp N a0 a1).bind fun r1=>cond (!r1) (some ((false,kV),(1:Int))) ((iO N a0 a2).bind fun r2=>cond (!r2) (some ((false,kV),(1:Int))) (dw a1 a2 a0 (false,kV) (false,kV) (0:Int)))
def jm(N:Nat)(a0:aa)(a1:av)(a2:aj):Option (ax×(Int)):=jm.b N (jm.l5 N N) a0 a1 a2
def L4(N:Nat)(a0:aa)(a1:ag)(a2:Int)(a3:aU):Option ax:=
 cond (small (List.length cK+List.length a1.2.2.2.2.2.1)) (let v1:List ((Int)×((Int)×((Int)×((Int)×((Int)×((Int)×(Unit))))))):=cK++a1.2.2.2.2.2.1;cond (small (List.length v1+List.length a3)) ((ug N a1.2.2.2.1 a2).bind fun r3=>(dp N (v1++a3) a2).bind fun r4=>(jm N a0 r3 r4).bind fun r5=>some r5.1) (none)) (none)
def Wl(N:Nat)(a0:aa)(a1:ag)(a2:Int)(a3:Int):Option (ag×(Int)):=
 (bS N a0 a1).bind fun r1=>cond (!r1) (some ((bE,(cg,(aX,(aX,(cC,(cK,())))))),(1:Int))) (cond (aG a3 1) (some ((bE,(cg,(aX,(aX,(cC,(cK,())))))),(1:Int))) ((A0 N a1.2.1 a2).bind fun r2=>cond (!r2.2) (some ((bE,(cg,(aX,(aX,(cC,(cK,())))))),(3:Int))) ((vS N a1.1 r2.1.2.1).bind fun r3=>cond (!aA r3 1) (some ((bE,(cg,(aX,(aX,(cC,(cK,())))))),(7:Int))) ((qZ N a1.2.2.1 (5:Int) a2).bind fun r4=>(fQ N r4).bind fun r5=>(fQ N a3).bind fun r6=>(KC N r5 r6).bind fun r7=>(L4 N a0 a1 a2 cK).bind fun r8=>(DB N r7 r8).bind fun r9=>cond (aG r9 0) (some ((bE,(cg,(aX,(aX,(cC,(cK,())))))),(10:Int))) ((fQ N a3).bind fun gA=>(BW N (5:Int) a2 (1:Int) (0:Int) gA).bind fun jV=>(xl N a1 aX jV).bind fun iX=>some (iX.1,iX.2))))))
def Ga(N:Nat)(a0:aR)(a1:Int):Option (Int):=
 (vS N a0.2.2.1.1 a1).bind fun r1=>some r1
abbrev oe.fV:=Int→Int→aD→Int→Option (aD×(Int))
def oe.zL(N:Nat)(dW:oe.fV)(x1:Int)(x2:Int)(aQ:aD)(aK:Int):Option (aD×(Int)):=
 cond (aG aK (List.length aQ:Int)) (cond (aI aK (List.length aQ)) (cond (aA ((List.getD aQ aK.toNat aJ).1) x1) (cond (aI aK (List.length aQ)) (dW x1 x2 (List.set aQ aK.toNat ((List.getD aQ aK.toNat aJ).1,(((List.getD aQ aK.toNat aJ).2).1,((((List.getD aQ aK.toNat aJ).2).2).1,(x2,((((List.getD aQ aK.toNat aJ).2).2).2).2))))) (W .i64 (aK+1))) (none)) (dW x1 x2 aQ (W .i64 (aK+1)))) (none)) (some (aQ,(0:Int)))
def oe.l8(N:Nat):Nat→oe.fV
 |0,_,_,_,_=>none
 |n+1,x1,x2,aQ,aK=>oe.zL N (oe.l8 N n) x1 x2 aQ aK
def oe.b(N:Nat)(Cc:oe.fV)(a0:aD)(a1:Int)(a2:Int):Option (aD×(Int)):=
 (iU N a0).bind fun r1=>cond (!r1) (some ([],(1:Int))) (cond (aG a2 0) (some ([],(1:Int))) (cond (aG 1000000000000 a2) (some ([],(1:Int))) ((kN N a0 a1).bind fun r2=>cond (!r2.2) (some ([],(3:Int))) (cond (small (List.length cg+List.length a0)) (Cc a1 a2 (cg++a0) (0:Int)) (none)))))
def oe(N:Nat)(a0:aD)(a1:Int)(a2:Int):Option (aD×(Int)):=oe.b N (oe.l8 N N) a0 a1 a2
def L1(N:Nat)(a0:cr)(a1:Int):Option (ax×(Int)):=
 (Lj N a0).bind fun r1=>cond (!r1) (some ((false,kV),(1:Int))) ((ze N a1).bind fun r2=>cond (!r2) (some ((false,kV),(1:Int))) (let v3:Int:=W .i64 (a0.2.2.2.2.2.1-a1);cond (aA a0.2.2.2.1 2) (let v4:Int:=W .i64 (a1-a0.2.2.2.2.2.1);cond (aG v4 0) (some ((false,kV),(0:Int))) ((fQ N a0.2.2.2.2.1).bind fun r5=>(fQ N v4).bind fun r6=>(gf N r5 r6).bind fun r7=>some (r7,(0:Int)))) (cond (aG v3 0) (some ((false,kV),(0:Int))) ((fQ N a0.2.2.2.2.1).bind fun r8=>(fQ N v3).bind fun r9=>(gf N r8 r9).bind fun gA=>some (gA,(0:Int))))))
def II(N:Nat)(a0:aa)(a1:ag)(a2:cr):Option (Int):=
 (bS N a0 a1).bind fun r1=>cond (!r1) (some (1:Int)) ((Lj N a2).bind fun r2=>cond (!r2) (some (1:Int)) ((A0 N a1.2.1 a2.2.1).bind fun r3=>cond (!r3.2) (some (3:Int)) ((vS N a1.1 r3.1.2.1).bind fun r4=>cond (!aA r4 1) (some (7:Int)) (cond (bX (List.length a0.1:Int) a2.2.2.1) (some (3:Int)) (cond (small (List.length cK+List.length a1.2.2.2.2.2.1)) (let v5:List ((Int)×((Int)×((Int)×((Int)×((Int)×((Int)×(Unit))))))):=cK++a1.2.2.2.2.2.1;cond (small (List.length v5+List.length ([a2]))) ((ug N a1.2.2.2.1 a2.2.1).bind fun r7=>(dp N (v5++([a2])) a2.2.1).bind fun r8=>(dM N a0 r7 r8 a2.2.2.1).bind fun r9=>(fQ N r3.1.2.2.2.1).bind fun gA=>(DB N r9.1 gA).bind fun jV=>cond (aG 0 jV) (some (9:Int)) (cond (aI a2.2.2.1 (List.length a1.2.2.2.2.1)) ((L1 N a2 (List.getD a1.2.2.2.2.1 a2.2.2.1.toNat (0:Int))).bind fun iX=>(qZ N a1.2.2.1 (5:Int) a2.2.1).bind fun jE=>(fQ N jE).bind fun mF=>(KC N mF iX.1).bind fun ob=>(L4 N a0 a1 a2.2.1 ([a2])).bind fun ri=>(DB N ob ri).bind fun rO=>cond (aG rO 0) (some (10:Int)) (some (0:Int))) (none))) (none)) (none))))))
def Wi(N:Nat)(a0:cr)(a1:cr):Option (Bool):=
 cond (!aA a0.2.2.2.2.2.1 a1.2.2.2.2.2.1) (some (jT .bool (aG a1.2.2.2.2.2.1 a0.2.2.2.2.2.1) (aA a0.2.2.2.1 1))) (some (aG a0.1 a1.1))
abbrev dx.I7:=aU→Int→Int→aU→Int→Int→Option aU
abbrev dx.jq:=aU→Int→Int→aU→Int→Int→Option aU
abbrev dx.bf:=aU→Int→Int→aU→Int→Option aU
def dx.BU(N:Nat)(bh:dx.bf)(x0:aU)(x1:Int)(x2:Int)(x7:aU)(x8:Int)(x9:Int):Option aU:=
 cond (gH 0 x9 (List.length x7:Int) (List.length x7:Int)) (let v9:List ((Int)×((Int)×((Int)×((Int)×((Int)×((Int)×(Unit))))))):=List.drop (0:Int).toNat (List.take x9.toNat x7);cond (small (List.length v9)) (cond (aI x8 (List.length x0)) (cond (small (List.length v9+List.length ([List.getD x0 x8.toNat dT]))) (let v10:List ((Int)×((Int)×((Int)×((Int)×((Int)×((Int)×(Unit))))))):=v9++([List.getD x0 x8.toNat dT]);cond (gH x9 (List.length x7:Int) (List.length x7:Int) (List.length x7:Int)) (let v11:List ((Int)×((Int)×((Int)×((Int)×((Int)×((Int)×(Unit))))))):=List.drop x9.toNat (List.take (List.length x7:Int).toNat x7);cond (small (List.length v10+List.length v11)) (bh x0 x1 x2 (v10++v11) (W .i64 (x8+1))) (none)) (none)) (none)) (none)) (none)) (none)
def dx.KF(N:Nat)(bh:dx.bf)(x0:aU)(x1:Int)(x2:Int)(x7:aU)(x8:Int)(x9:Int):Option aU:=dx.BU N bh x0 x1 x2 x7 x8 x9
def dx.tJ(N:Nat)(yO:dx.I7)(bh:dx.bf)(mX:dx.jq)(x0:aU)(x1:Int)(x2:Int)(x7:aU)(x8:Int)(x9:Int):Option aU:=
 cond (aG x9 (List.length x7:Int)) (cond (aI x9 (List.length x7)) (cond (aI x8 (List.length x0)) ((Wi N (List.getD x7 x9.toNat dT) (List.getD x0 x8.toNat dT)).bind fun r6=>cond (r6) (mX x0 x1 x2 x7 x8 (W .i64 (x9+1))) (yO x0 x1 x2 x7 x8 x9)) (none)) (none)) (yO x0 x1 x2 x7 x8 x9)
def dx.l9(N:Nat)(bh:dx.bf):Nat→dx.jq
 |0,_,_,_,_,_,_=>none
 |n+1,x0,x1,x2,x7,x8,x9=>dx.tJ N (dx.KF N bh) bh (dx.l9 N bh n) x0 x1 x2 x7 x8 x9
def dx.c7(N:Nat)(u2:dx.jq)(bh:dx.bf)(x0:aU)(x1:Int)(x2:Int)(x7:aU)(x8:Int):Option aU:=
 cond (aG x8 (List.length x0:Int)) (cond (aI x8 (List.length x0)) (cond (!aA ((((List.getD x0 x8.toNat dT).2).2).1) x1) (bh x0 x1 x2 x7 (W .i64 (x8+1))) (cond (aI x8 (List.length x0)) (cond (!aA (((((List.getD x0 x8.toNat dT).2).2).2).1) x2) (bh x0 x1 x2 x7 (W .i64 (x8+1))) (u2 x0 x1 x2 x7 x8 (0:Int))) (none))) (none)) (some x7)
def dx.l5(N:Nat):Nat→dx.bf
 |0,_,_,_,_,_=>none
 |n+1,x0,x1,x2,x7,x8=>dx.c7 N (dx.l9 N (dx.l5 N n) N) (dx.l5 N n) x0 x1 x2 x7 x8
def dx.b(N:Nat)(dw:dx.bf)(a0:aU)(a1:Int)(a2:Int):Option aU:=
 (jL N a0).bind fun r1=>cond (!r1) (some ([])) (dw a0 a1 a2 ([]) (0:Int))
def dx(N:Nat)(a0:aU)(a1:Int)(a2:Int):Option aU:=dx.b N (dx.l5 N N) a0 a1 a2
abbrev b7.oB:=aU→Int→aZ→aU→Int→Option (aU×aZ×(Int)×(Int))
abbrev b7.ajm:=aU→Int→aZ→Option (aU×aZ×(Int)×(Int))
abbrev b7.sT:=cr→aU→Int→aZ→aU→Int→Int→Int→Option (aU×aZ×(Int)×(Int))
abbrev b7.wH:=cr→aU→Int→aZ→aU→Int→Int→gk→Option (aU×aZ×(Int)×(Int))
abbrev b7.TC:=cr→aU→Int→aZ→aU→Int→Option (aU×aZ×(Int)×(Int))
abbrev b7.dq:=cr→aU→Int→aZ→aU→Int→Option (aU×aZ×(Int)×(Int))
def b7.AQ(N:Nat)(oC:b7.oB)(x8:aU)(x9:Int)(aQ:aZ)(db:aU)(cV:Int):Option (aU×aZ×(Int)×(Int)):=
 cond (aG cV (List.length x8:Int)) (cond (aI cV (List.length x8)) (cond (aG 0 ((((((List.getD x8 cV.toNat dT).2).2).2).2).1)) (cond (aI cV (List.length x8)) (cond (small (List.length db+List.length ([List.getD x8 cV.toNat dT]))) (oC x8 x9 aQ (db++([List.getD x8 cV.toNat dT])) (W .i64 (cV+1))) (none)) (none)) (oC x8 x9 aQ db (W .i64 (cV+1)))) (none)) (some (db,aQ,x9,(0:Int)))
def b7.zF(N:Nat):Nat→b7.oB
 |0,_,_,_,_,_=>none
 |n+1,x8,x9,aQ,db,cV=>b7.AQ N (b7.zF N n) x8 x9 aQ db cV
def b7.ady(N:Nat)(I3:b7.oB)(x8:aU)(x9:Int)(aQ:aZ):Option (aU×aZ×(Int)×(Int)):=
 I3 x8 x9 aQ ([]) (0:Int)
def b7.j22(N:Nat)(x8:aU)(x9:Int)(aQ:aZ):Option (aU×aZ×(Int)×(Int)):=b7.ady N (b7.zF N N) x8 x9 aQ
def b7.BV(N:Nat)(df:b7.dq)(Ce:b7.sT)(x3:cr)(x8:aU)(x9:Int)(aQ:aZ)(aK:aU)(aP:Int)(bn:Int)(cc:Int):Option (aU×aZ×(Int)×(Int)):=
 cond (aG cc (List.length x8:Int)) (cond (aI cc (List.length x8)) (cond (aI aP (List.length aK)) (cond (aA ((List.getD x8 cc.toNat dT).1) ((List.getD aK aP.toNat dT).1)) (cond (aI cc (List.length x8)) (cond (aI cc (List.length x8)) (Ce x3 (List.set x8 cc.toNat ((List.getD x8 cc.toNat dT).1,(((List.getD x8 cc.toNat dT).2).1,((((List.getD x8 cc.toNat dT).2).2).1,(((((List.getD x8 cc.toNat dT).2).2).2).1,((W .i64 (((((((List.getD x8 cc.toNat dT).2).2).2).2).1)-bn)),(((((List.getD x8 cc.toNat dT).2).2).2).2).2)))))) x9 aQ aK aP bn (W .i64 (cc+1))) (none)) (none)) (Ce x3 x8 x9 aQ aK aP bn (W .i64 (cc+1)))) (none)) (none)) (df x3 x8 x9 aQ aK (W .i64 (aP+1)))
def b7.Eu(N:Nat)(df:b7.dq):Nat→b7.sT
 |0,_,_,_,_,_,_,_,_=>none
 |n+1,x3,x8,x9,aQ,aK,aP,bn,cc=>b7.BV N df (b7.Eu N df n) x3 x8 x9 aQ aK aP bn cc
def b7.qg(N:Nat)(I8:b7.sT)(df:b7.dq)(x3:cr)(x8:aU)(x9:Int)(aQ:aZ)(aK:aU)(aP:Int)(bn:Int)(bu:gk):Option (aU×aZ×(Int)×(Int)):=
 cond (small (List.length aQ+List.length ([bu]))) (I8 x3 x8 (W .i64 (x9-bn)) (aQ++([bu])) aK aP bn (0:Int)) (none)
def b7.wT(N:Nat)(df:b7.dq)(x3:cr)(x8:aU)(x9:Int)(aQ:aZ)(aK:aU)(aP:Int)(bn:Int)(bu:gk):Option (aU×aZ×(Int)×(Int)):=b7.qg N (b7.Eu N df N) df x3 x8 x9 aQ aK aP bn bu
def b7.Me(N:Nat)(m5:b7.wH)(df:b7.dq)(x3:cr)(x8:aU)(x9:Int)(aQ:aZ)(aK:aU)(aP:Int):Option (aU×aZ×(Int)×(Int)):=
 cond (aI aP (List.length aK)) (cond (aA (((List.getD aK aP.toNat dT).2).1) x3.2.1) (df x3 x8 x9 aQ aK (W .i64 (aP+1))) (cond (aI aP (List.length aK)) (let v14:Int:=mn x9 ((((((List.getD aK aP.toNat dT).2).2).2).2).1);cond (aI aP (List.length aK)) (cond (aI aP (List.length aK)) (cond (aA x3.2.2.2.1 2) (cond (aI aP (List.length aK)) (m5 x3 x8 x9 aQ aK aP v14 (((List.getD aK aP.toNat dT).2).1,(x3.2.1,(x3.2.2.1,(v14,(((((((List.getD aK aP.toNat dT).2).2).2).2).2).1,())))))) (none)) (m5 x3 x8 x9 aQ aK aP v14 (x3.2.1,(((List.getD aK aP.toNat dT).2).1,(x3.2.2.1,(v14,(((((((List.getD aK aP.toNat dT).2).2).2).2).2).1,()))))))) (none)) (none)) (none))) (none)
def b7.SZ(N:Nat)(df:b7.dq)(x3:cr)(x8:aU)(x9:Int)(aQ:aZ)(aK:aU)(aP:Int):Option (aU×aZ×(Int)×(Int)):=b7.Me N (b7.wT N df) df x3 x8 x9 aQ aK aP
def b7.mE(N:Nat)(I9:b7.ajm)(Cg:b7.TC)(df:b7.dq)(x3:cr)(x8:aU)(x9:Int)(aQ:aZ)(aK:aU)(aP:Int):Option (aU×aZ×(Int)×(Int)):=
 cond (aG aP (List.length aK:Int)) (cond (aG 0 x9) (cond (aA x3.2.2.2.1 1) (cond (aI aP (List.length aK)) (cond (aG x3.2.2.2.2.2.1 (((((((List.getD aK aP.toNat dT).2).2).2).2).2).1)) (I9 x8 x9 aQ) (cond (aA x3.2.2.2.1 2) (cond (aI aP (List.length aK)) (cond (aG (((((((List.getD aK aP.toNat dT).2).2).2).2).2).1) x3.2.2.2.2.2.1) (I9 x8 x9 aQ) (Cg x3 x8 x9 aQ aK aP)) (none)) (Cg x3 x8 x9 aQ aK aP))) (none)) (cond (aA x3.2.2.2.1 2) (cond (aI aP (List.length aK)) (cond (aG (((((((List.getD aK aP.toNat dT).2).2).2).2).2).1) x3.2.2.2.2.2.1) (I9 x8 x9 aQ) (Cg x3 x8 x9 aQ aK aP)) (none)) (Cg x3 x8 x9 aQ aK aP))) (I9 x8 x9 aQ)) (I9 x8 x9 aQ)
def b7.l7(N:Nat):Nat→b7.dq
 |0,_,_,_,_,_,_=>none
 |n+1,x3,x8,x9,aQ,aK,aP=>b7.mE N (b7.j22 N) (b7.SZ N (b7.l7 N n)) (b7.l7 N n) x3 x8 x9 aQ aK aP
def b7.b(N:Nat)(pJ:b7.dq)(a0:aU)(a1:cr):Option (aU×aZ×(Int)×(Int)):=
 (jL N a0).bind fun r1=>cond (!r1) (some ([],[],(0:Int),(1:Int))) ((Lj N a1).bind fun r2=>cond (!r2) (some ([],[],(0:Int),(1:Int))) (cond (small (List.length cK+List.length a0)) ((dx N a0 a1.2.2.1 (W .i64 ((3:Int)-a1.2.2.2.1))).bind fun r5=>pJ a1 (cK++a0) a1.2.2.2.2.1 ([]) r5 (0:Int)) (none)))
def b7(N:Nat)(a0:aU)(a1:cr):Option (aU×aZ×(Int)×(Int)):=b7.b N (b7.l7 N N) a0 a1
def Sb(N:Nat)(a0:gk):Option (Bool):=
 cond (bX 0 a0.1) (cond (bX a0.1 24) (cond (bX 0 a0.2.1) (cond (bX a0.2.1 24) (cond (!aA a0.1 a0.2.1) (cond (bX 0 a0.2.2.1) (cond (aG a0.2.2.1 6) (cond (bX 1 a0.2.2.2.1) (cond (bX a0.2.2.2.1 1000000000) ((ze N a0.2.2.2.2.1).bind fun r1=>some r1) (some false)) (some false)) (some false)) (some false)) (some false)) (some false)) (some false)) (some false)) (some false)
def FC(N:Nat)(a0:Int):Option ((Int)×(Int)):=
 cond (aA a0 0) (some ((2:Int),(0:Int))) (some ((5:Int),a0))
def LD(N:Nat)(a0:gk)(a1:Int):Option (bx×(Int)):=
 (Sb N a0).bind fun r1=>cond (!r1) (some ([],(1:Int))) ((ze N a1).bind fun r2=>cond (!r2) (some ([],(1:Int))) ((fQ N (W .i64 (a1-a0.2.2.2.2.1))).bind fun r4=>(fQ N a0.2.2.2.1).bind fun r5=>(gf N r4 r5).bind fun r6=>(Nl N r6).bind fun r7=>cond (aA r7 0) (some ([],(0:Int))) ((FC N a0.1).bind fun r8=>(FC N a0.2.1).bind fun r9=>(Qn N r6).bind fun gA=>some ([(r8.1,(r8.2,(r6,()))),(r9.1,(r9.2,(gA,())))],(0:Int)))))
abbrev eg.sU:=aZ→aa→ag→ag→aj→bx→Int→Option (ag×(Int))
abbrev eg.aY:=aZ→aa→ag→ag→Int→Option (ag×(Int))
def eg.xm(N:Nat)(wK:eg.sU)(x2:aZ)(x3:aa)(x4:ag)(x6:ag)(x9:aj)(aQ:bx)(aK:Int):Option (ag×(Int)):=
 cond (aG aK (List.length x2:Int)) (cond (aI aK (List.length x2)) ((Fp N x4 ((List.getD x2 aK.toNat dX).1)).bind fun r6=>cond (!r6) (some ((bE,(cg,(aX,(aX,(cC,(cK,())))))),(3:Int))) ((Fp N x4 (((List.getD x2 aK.toNat dX).2).1)).bind fun r7=>cond (!r7) (some ((bE,(cg,(aX,(aX,(cC,(cK,())))))),(3:Int))) (cond (bX (List.length x3.1:Int) ((((List.getD x2 aK.toNat dX).2).2).1)) (some ((bE,(cg,(aX,(aX,(cC,(cK,())))))),(3:Int))) (let v8:Int:=W .i64 (0-(((((List.getD x2 aK.toNat dX).2).2).2).1));cond (small (List.length x9+List.length ([((List.getD x2 aK.toNat dX).1,((((List.getD x2 aK.toNat dX).2).2).1,(((((List.getD x2 aK.toNat dX).2).2).2).1,()))),(((List.getD x2 aK.toNat dX).2).1,((((List.getD x2 aK.toNat dX).2).2).1,(v8,())))]))) (cond (aI ((((List.getD x2 aK.toNat dX).2).2).1) (List.length x4.2.2.2.2.1)) ((LD N (List.getD x2 aK.toNat dX) (List.getD x4.2.2.2.2.1 ((((List.getD x2 aK.toNat dX).2).2).1).toNat (0:Int))).bind fun gA=>cond (small (List.length aQ+List.length gA.1)) (wK x2 x3 x4 x6 (x9++([((List.getD x2 aK.toNat dX).1,((((List.getD x2 aK.toNat dX).2).2).1,(((((List.getD x2 aK.toNat dX).2).2).2).1,()))),(((List.getD x2 aK.toNat dX).2).1,((((List.getD x2 aK.toNat dX).2).2).1,(v8,())))])) (aQ++gA.1) (W .i64 (aK+1))) (none)) (none)) (none))))) (none)) ((xl N x4 x9 aQ).bind fun jE=>some (jE.1,jE.2))
def eg.zR(N:Nat):Nat→eg.sU
 |0,_,_,_,_,_,_,_=>none
 |n+1,x2,x3,x4,x6,x9,aQ,aK=>eg.xm N (eg.zR N n) x2 x3 x4 x6 x9 aQ aK
def eg.cD(N:Nat)(Ja:eg.sU)(bA:eg.aY)(x2:aZ)(x3:aa)(x4:ag)(x6:ag)(x8:Int):Option (ag×(Int)):=
 cond (aG x8 (List.length x2:Int)) (cond (aI x8 (List.length x2)) ((Sb N (List.getD x2 x8.toNat dX)).bind fun r3=>cond (!r3) (some ((bE,(cg,(aX,(aX,(cC,(cK,())))))),(1:Int))) (bA x2 x3 x4 x6 (W .i64 (x8+1)))) (none)) (Ja x2 x3 x4 x6 ([]) ([]) (0:Int))
def eg.l4(N:Nat):Nat→eg.aY
 |0,_,_,_,_,_=>none
 |n+1,x2,x3,x4,x6,x8=>eg.cD N (eg.zR N N) (eg.l4 N n) x2 x3 x4 x6 x8
def eg.b(N:Nat)(c6:eg.aY)(a0:aa)(a1:ag)(a2:aZ):Option (ag×(Int)):=
 (bS N a0 a1).bind fun r1=>cond (!r1) (some ((bE,(cg,(aX,(aX,(cC,(cK,())))))),(1:Int))) (cond (aG 200 (List.length a2:Int)) (some ((bE,(cg,(aX,(aX,(cC,(cK,())))))),(1:Int))) (c6 a2 a0 a1 (bE,(cg,(aX,(aX,(cC,(cK,())))))) (0:Int)))
def eg(N:Nat)(a0:aa)(a1:ag)(a2:aZ):Option (ag×(Int)):=eg.b N (eg.l4 N N) a0 a1 a2
abbrev jP.TC:=aa→ag→cr→ag→aU→aZ→Int→Option (ag×aZ×(Int)×(Int))
abbrev jP.Mr:=aa→ag→cr→ag→Option (ag×aZ×(Int)×(Int))
def jP.Me(N:Nat)(x3:aa)(x4:ag)(x5:cr)(x6:ag)(aP:aU)(bn:aZ)(bu:Int):Option (ag×aZ×(Int)×(Int)):=
 (eg N x3 x4 bn).bind fun r6=>cond (!aA r6.2 0) (some ((bE,(cg,(aX,(aX,(cC,(cK,())))))),zA,(0:Int),r6.2)) (cond (aG 0 bu) (cond (small (List.length aP+List.length ([(x5.1,(x5.2.1,(x5.2.2.1,(x5.2.2.2.1,(bu,x5.2.2.2.2.2)))))]))) (some ((r6.1.1,(r6.1.2.1,(r6.1.2.2.1,(r6.1.2.2.2.1,(r6.1.2.2.2.2.1,((aP++([(x5.1,(x5.2.1,(x5.2.2.1,(x5.2.2.2.1,(bu,x5.2.2.2.2.2)))))])),r6.1.2.2.2.2.2.2)))))),bn,bu,(0:Int))) (none)) (some ((r6.1.1,(r6.1.2.1,(r6.1.2.2.1,(r6.1.2.2.2.1,(r6.1.2.2.2.2.1,(aP,r6.1.2.2.2.2.2.2)))))),bn,bu,(0:Int))))
def jP.SZ(N:Nat)(x3:aa)(x4:ag)(x5:cr)(x6:ag)(aP:aU)(bn:aZ)(bu:Int):Option (ag×aZ×(Int)×(Int)):=jP.Me N x3 x4 x5 x6 aP bn bu
def jP.K8(N:Nat)(Cg:jP.TC)(x3:aa)(x4:ag)(x5:cr)(x6:ag):Option (ag×aZ×(Int)×(Int)):=
 (b7 N x4.2.2.2.2.2.1 x5).bind fun r4=>cond (aG 0 r4.2.2.1) (cond (aA (List.length r4.1:Int) 32) (some ((bE,(cg,(aX,(aX,(cC,(cK,())))))),zA,(0:Int),(5:Int))) (Cg x3 x4 x5 x6 r4.1 r4.2.1 r4.2.2.1)) (Cg x3 x4 x5 x6 r4.1 r4.2.1 r4.2.2.1)
def jP.j7(N:Nat)(x3:aa)(x4:ag)(x5:cr)(x6:ag):Option (ag×aZ×(Int)×(Int)):=jP.K8 N (jP.SZ N) x3 x4 x5 x6
def jP.b(N:Nat)(xz:jP.Mr)(a0:aa)(a1:ag)(a2:cr):Option (ag×aZ×(Int)×(Int)):=
 (II N a0 a1 a2).bind fun r1=>cond (!aA r1 0) (some ((bE,(cg,(aX,(aX,(cC,(cK,())))))),zA,(0:Int),r1)) (cond (aG 0 (List.length a1.2.2.2.2.2.1:Int)) (let v2:Int:=W .i64 ((List.length a1.2.2.2.2.2.1:Int)-1);cond (aI v2 (List.length a1.2.2.2.2.2.1)) (cond (bX a2.1 ((List.getD a1.2.2.2.2.2.1 v2.toNat dT).1)) (some ((bE,(cg,(aX,(aX,(cC,(cK,())))))),zA,(0:Int),(1:Int))) (xz a0 a1 a2 (bE,(cg,(aX,(aX,(cC,(cK,())))))))) (none)) (xz a0 a1 a2 (bE,(cg,(aX,(aX,(cC,(cK,()))))))))
def jP(N:Nat)(a0:aa)(a1:ag)(a2:cr):Option (ag×aZ×(Int)×(Int)):=jP.b N (jP.j7 N) a0 a1 a2
abbrev oi.bf:=aU→Int→Int→aU→Int→Option (aU×(Int))
def oi.c7(N:Nat)(bh:oi.bf)(x0:aU)(x1:Int)(x2:Int)(x8:aU)(x9:Int):Option (aU×(Int)):=
 cond (aG x9 (List.length x0:Int)) (cond (aI x9 (List.length x0)) (cond (!aA ((List.getD x0 x9.toNat dT).1) x2) (cond (aI x9 (List.length x0)) (cond (small (List.length x8+List.length ([List.getD x0 x9.toNat dT]))) (bh x0 x1 x2 (x8++([List.getD x0 x9.toNat dT])) (W .i64 (x9+1))) (none)) (none)) (cond (aI x9 (List.length x0)) (cond (!aA (((List.getD x0 x9.toNat dT).2).1) x1) (cond (aI x9 (List.length x0)) (cond (small (List.length x8+List.length ([List.getD x0 x9.toNat dT]))) (bh x0 x1 x2 (x8++([List.getD x0 x9.toNat dT])) (W .i64 (x9+1))) (none)) (none)) (bh x0 x1 x2 x8 (W .i64 (x9+1)))) (none))) (none)) (cond (aA (List.length x8:Int) (List.length x0:Int)) (some ([],(3:Int))) (some (x8,(0:Int))))
def oi.l5(N:Nat):Nat→oi.bf
 |0,_,_,_,_,_=>none
 |n+1,x0,x1,x2,x8,x9=>oi.c7 N (oi.l5 N n) x0 x1 x2 x8 x9
def oi.b(N:Nat)(dw:oi.bf)(a0:aU)(a1:Int)(a2:Int):Option (aU×(Int)):=
 (jL N a0).bind fun r1=>cond (!r1) (some ([],(1:Int))) (dw a0 a1 a2 ([]) (0:Int))
def oi(N:Nat)(a0:aU)(a1:Int)(a2:Int):Option (aU×(Int)):=oi.b N (oi.l5 N N) a0 a1 a2
abbrev oj.fe:=aj→Int→bx→ax→Int→Option (bx×(Int))
def oj.pE(N:Nat)(ff:oj.fe)(x0:aj)(x1:Int)(aQ:bx)(aK:ax)(aP:Int):Option (bx×(Int)):=
 cond (aG aP (List.length x0:Int)) (cond (aI aP (List.length x0)) (cond (!aA (((List.getD x0 aP.toNat aM).2).1) x1) (ff x0 x1 aQ aK (W .i64 (aP+1))) ((Nl N aK).bind fun r9=>cond (aA r9 0) (ff x0 x1 aQ aK (W .i64 (aP+1))) (cond (aI aP (List.length x0)) ((FC N ((List.getD x0 aP.toNat aM).1)).bind fun jV=>cond (aI aP (List.length x0)) ((fQ N ((((List.getD x0 aP.toNat aM).2).2).1)).bind fun iX=>(gf N iX aK).bind fun jE=>cond (small (List.length aQ+List.length ([(jV.1,(jV.2,(jE,())))]))) (ff x0 x1 (aQ++([(jV.1,(jV.2,(jE,())))])) aK (W .i64 (aP+1))) (none)) (none)) (none)))) (none)) (some (aQ,(0:Int)))
def oj.l6(N:Nat):Nat→oj.fe
 |0,_,_,_,_,_=>none
 |n+1,x0,x1,aQ,aK,aP=>oj.pE N (oj.l6 N n) x0 x1 aQ aK aP
def oj.b(N:Nat)(rr:oj.fe)(a0:aj)(a1:Int)(a2:Int)(a3:Int):Option (bx×(Int)):=
 (vd N a0).bind fun r1=>cond (!r1) (some ([],(1:Int))) ((ze N a2).bind fun r2=>cond (!r2) (some ([],(1:Int))) ((ze N a3).bind fun r3=>cond (!r3) (some ([],(1:Int))) ((fQ N a3).bind fun r4=>(fQ N a2).bind fun r5=>(KC N r4 r5).bind fun r6=>rr a0 a1 ([]) r6 (0:Int))))
def oj(N:Nat)(a0:aj)(a1:Int)(a2:Int)(a3:Int):Option (bx×(Int)):=oj.b N (oj.l6 N N) a0 a1 a2 a3
def Wk(N:Nat)(a0:aa)(a1:ag)(a2:Int)(a3:Int):Option (ag×bx×(Int)):=
 (bS N a0 a1).bind fun r1=>cond (!r1) (some ((bE,(cg,(aX,(aX,(cC,(cK,())))))),([]:List ((Int)×((Int)×(((Bool)×((List (Int))×(Unit)))×(Unit))))),(1:Int))) ((ze N a3).bind fun r2=>cond (!r2) (some ((bE,(cg,(aX,(aX,(cC,(cK,())))))),([]:List ((Int)×((Int)×(((Bool)×((List (Int))×(Unit)))×(Unit))))),(1:Int))) (cond (aG a2 0) (some ((bE,(cg,(aX,(aX,(cC,(cK,())))))),([]:List ((Int)×((Int)×(((Bool)×((List (Int))×(Unit)))×(Unit))))),(3:Int))) (cond (bX (List.length a0.1:Int) a2) (some ((bE,(cg,(aX,(aX,(cC,(cK,())))))),([]:List ((Int)×((Int)×(((Bool)×((List (Int))×(Unit)))×(Unit))))),(3:Int))) (cond (aI a2 (List.length a1.2.2.2.2.1)) ((oj N a1.2.2.2.1 a2 (List.getD a1.2.2.2.2.1 a2.toNat (0:Int)) a3).bind fun r3=>(xl N a1 aX r3.1).bind fun r4=>cond (!aA r4.2 0) (some ((bE,(cg,(aX,(aX,(cC,(cK,())))))),([]:List ((Int)×((Int)×(((Bool)×((List (Int))×(Unit)))×(Unit))))),r4.2)) (cond (small (List.length cC+List.length a1.2.2.2.2.1)) (let v5:List (Int):=cC++a1.2.2.2.2.1;cond (aI a2 (List.length v5)) (some ((r4.1.1,(r4.1.2.1,(r4.1.2.2.1,(r4.1.2.2.2.1,((List.set v5 a2.toNat a3),r4.1.2.2.2.2.2))))),r3.1,(0:Int))) (none)) (none))) (none)))))
abbrev ns.bT:=av→Int→Option (Bool)
def ns.dA(N:Nat)(cS:ns.bT)(x0:av)(x3:Int):Option (Bool):=
 cond (aG x3 (List.length x0:Int)) (cond (aI x3 (List.length x0)) (cond (aG ((List.getD x0 x3.toNat bL).1) (1:Int)) (some false) (cond (aI x3 (List.length x0)) (cond (aG 24 ((List.getD x0 x3.toNat bL).1)) (some false) (cond (aI x3 (List.length x0)) (cond (aA (((List.getD x0 x3.toNat bL).2).1) (0:Int)) (some false) (cond (aG 0 x3) (cond (aI x3 (List.length x0)) (let v2:Int:=W .i64 (x3-1);cond (aI v2 (List.length x0)) (cond (bX ((List.getD x0 x3.toNat bL).1) ((List.getD x0 v2.toNat bL).1)) (some false) (cS x0 (W .i64 (x3+1)))) (none)) (none)) (cS x0 (W .i64 (x3+1))))) (none))) (none))) (none)) (some true)
def ns.l2(N:Nat):Nat→ns.bT
 |0,_,_=>none
 |n+1,x0,x3=>ns.dA N (ns.l2 N n) x0 x3
def ns.b(N:Nat)(eI:ns.bT)(a0:av):Option (Bool):=
 eI a0 (0:Int)
def ns(N:Nat)(a0:av):Option (Bool):=ns.b N (ns.l2 N N) a0
abbrev dr.sV:=av→bx→av→Int→ax→Int→Option (av×(Int))
abbrev dr.jq:=av→bx→av→Int→ax→Int→Option (av×(Int))
abbrev dr.bf:=av→bx→av→Int→Option (av×(Int))
def dr.Bv(N:Nat)(bh:dr.bf)(yP:dr.sV)(x0:av)(x1:bx)(x6:av)(x7:Int)(x8:ax)(aQ:Int):Option (av×(Int)):=
 cond (aG aQ (List.length x1:Int)) (cond (aI aQ (List.length x1)) (cond (aA ((List.getD x1 aQ.toNat ((0:Int),((0:Int),((false,kV),())))).1) (5:Int)) (cond (aI aQ (List.length x1)) (cond (aA (((List.getD x1 aQ.toNat ((0:Int),((0:Int),((false,kV),())))).2).1) x7) (cond (aI aQ (List.length x1)) ((uc N x8 ((((List.getD x1 aQ.toNat ((0:Int),((0:Int),((false,kV),())))).2).2).1)).bind fun r8=>yP x0 x1 x6 x7 r8 (W .i64 (aQ+1))) (none)) (yP x0 x1 x6 x7 x8 (W .i64 (aQ+1)))) (none)) (yP x0 x1 x6 x7 x8 (W .i64 (aQ+1)))) (none)) ((sx N x8).bind fun iX=>cond (!iX.2) (some ([],(2:Int))) (cond (!aA iX.1 0) (cond (small (List.length x6+List.length ([(x7,(iX.1,()))]))) (bh x0 x1 (x6++([(x7,(iX.1,()))])) (W .i64 (x7+1))) (none)) (bh x0 x1 x6 (W .i64 (x7+1)))))
def dr.D5(N:Nat)(bh:dr.bf):Nat→dr.sV
 |0,_,_,_,_,_,_=>none
 |n+1,x0,x1,x6,x7,x8,aQ=>dr.Bv N bh (dr.D5 N bh n) x0 x1 x6 x7 x8 aQ
def dr.tJ(N:Nat)(Jb:dr.sV)(bh:dr.bf)(mX:dr.jq)(x0:av)(x1:bx)(x6:av)(x7:Int)(x8:ax)(x9:Int):Option (av×(Int)):=
 cond (aG x9 (List.length x0:Int)) (cond (aI x9 (List.length x0)) (cond (aA ((List.getD x0 x9.toNat bL).1) x7) (cond (aI x9 (List.length x0)) ((fQ N (((List.getD x0 x9.toNat bL).2).1)).bind fun r4=>mX x0 x1 x6 x7 r4 (W .i64 (x9+1))) (none)) (mX x0 x1 x6 x7 x8 (W .i64 (x9+1)))) (none)) (Jb x0 x1 x6 x7 x8 (0:Int))
def dr.l9(N:Nat)(bh:dr.bf):Nat→dr.jq
 |0,_,_,_,_,_,_=>none
 |n+1,x0,x1,x6,x7,x8,x9=>dr.tJ N (dr.D5 N bh N) bh (dr.l9 N bh n) x0 x1 x6 x7 x8 x9
def dr.c7(N:Nat)(u2:dr.jq)(bh:dr.bf)(x0:av)(x1:bx)(x6:av)(x7:Int):Option (av×(Int)):=
 cond (bX x7 24) (u2 x0 x1 x6 x7 (false,kV) (0:Int)) (some (x6,(0:Int)))
def dr.l5(N:Nat):Nat→dr.bf
 |0,_,_,_,_=>none
 |n+1,x0,x1,x6,x7=>dr.c7 N (dr.l9 N (dr.l5 N n) N) (dr.l5 N n) x0 x1 x6 x7
def dr.b(N:Nat)(dw:dr.bf)(a0:av)(a1:bx):Option (av×(Int)):=
 (ns N a0).bind fun r1=>cond (!r1) (some ([],(1:Int))) (dw a0 a1 ([]) (1:Int))
def dr(N:Nat)(a0:av)(a1:bx):Option (av×(Int)):=dr.b N (dr.l5 N N) a0 a1
def P3(N:Nat)(a0:aR)(a1:Int):Option ((Int)×(Bool)):=
 (fQ N a0.1).bind fun r1=>(fQ N a1).bind fun r2=>(uc N r1 r2).bind fun r3=>(sx N r3).bind fun r4=>some (r4.1,r4.2)
def Wg(N:Nat)(a0:Int)(a1:Int):Option ((Int)×(Bool)):=
 cond (aA a0 0) (cond (aA a1 1) (some ((1:Int),true)) (cond (aA a0 1) (cond (aA a1 11) (some ((2:Int),true)) (cond (aA a0 2) (cond (aA a1 12) (some ((1:Int),true)) (cond (aA a0 2) (cond (aA a1 13) (some ((3:Int),true)) (cond (aA a0 3) (cond (aA a1 21) (some ((4:Int),true)) (some ((0:Int),false))) (some ((0:Int),false)))) (cond (aA a0 3) (cond (aA a1 21) (some ((4:Int),true)) (some ((0:Int),false))) (some ((0:Int),false))))) (cond (aA a0 2) (cond (aA a1 13) (some ((3:Int),true)) (cond (aA a0 3) (cond (aA a1 21) (some ((4:Int),true)) (some ((0:Int),false))) (some ((0:Int),false)))) (cond (aA a0 3) (cond (aA a1 21) (some ((4:Int),true)) (some ((0:Int),false))) (some ((0:Int),false)))))) (cond (aA a0 2) (cond (aA a1 12) (some ((1:Int),true)) (cond (aA a0 2) (cond (aA a1 13) (some ((3:Int),true)) (cond (aA a0 3) (cond (aA a1 21) (some ((4:Int),true)) (some ((0:Int),false))) (some ((0:Int),false)))) (cond (aA a0 3) (cond (aA a1 21) (some ((4:Int),true)) (some ((0:Int),false))) (some ((0:Int),false))))) (cond (aA a0 2) (cond (aA a1 13) (some ((3:Int),true)) (cond (aA a0 3) (cond (aA a1 21) (some ((4:Int),true)) (some ((0:Int),false))) (some ((0:Int),false)))) (cond (aA a0 3) (cond (aA a1 21) (some ((4:Int),true)) (some ((0:Int),false))) (some ((0:Int),false))))))) (cond (aA a0 1) (cond (aA a1 11) (some ((2:Int),true)) (cond (aA a0 2) (cond (aA a1 12) (some ((1:Int),true)) (cond (aA a0 2) (cond (aA a1 13) (some ((3:Int),true)) (cond (aA a0 3) (cond (aA a1 21) (some ((4:Int),true)) (some ((0:Int),false))) (some ((0:Int),false)))) (cond (aA a0 3) (cond (aA a1 21) (some ((4:Int),true)) (some ((0:Int),false))) (some ((0:Int),false))))) (cond (aA a0 2) (cond (aA a1 13) (some ((3:Int),true)) (cond (aA a0 3) (cond (aA a1 21) (some ((4:Int),true)) (some ((0:Int),false))) (some ((0:Int),false)))) (cond (aA a0 3) (cond (aA a1 21) (some ((4:Int),true)) (some ((0:Int),false))) (some ((0:Int),false)))))) (cond (aA a0 2) (cond (aA a1 12) (some ((1:Int),true)) (cond (aA a0 2) (cond (aA a1 13) (some ((3:Int),true)) (cond (aA a0 3) (cond (aA a1 21) (some ((4:Int),true)) (some ((0:Int),false))) (some ((0:Int),false)))) (cond (aA a0 3) (cond (aA a1 21) (some ((4:Int),true)) (some ((0:Int),false))) (some ((0:Int),false))))) (cond (aA a0 2) (cond (aA a1 13) (some ((3:Int),true)) (cond (aA a0 3) (cond (aA a1 21) (some ((4:Int),true)) (some ((0:Int),false))) (some ((0:Int),false)))) (cond (aA a0 3) (cond (aA a1 21) (some ((4:Int),true)) (some ((0:Int),false))) (some ((0:Int),false))))))
abbrev mB.sU:=Int→Int→av→Int→Option (av×(Int))
def mB.xm(N:Nat)(wK:mB.sU)(x1:Int)(x9:Int)(aK:av)(aP:Int):Option (av×(Int)):=
 cond (aG aP (List.length aK:Int)) (cond (aI aP (List.length aK)) (cond (aA ((List.getD aK aP.toNat bL).1) x1) (cond (aI aP (List.length aK)) (wK x1 x9 (List.set aK aP.toNat ((List.getD aK aP.toNat bL).1,(x9,((List.getD aK aP.toNat bL).2).2))) (W .i64 (aP+1))) (none)) (wK x1 x9 aK (W .i64 (aP+1)))) (none)) (some (aK,(0:Int)))
def mB.zR(N:Nat):Nat→mB.sU
 |0,_,_,_,_=>none
 |n+1,x1,x9,aK,aP=>mB.xm N (mB.zR N n) x1 x9 aK aP
def mB.b(N:Nat)(Ja:mB.sU)(a0:av)(a1:Int)(a2:Int):Option (av×(Int)):=
 (kL N a0).bind fun r1=>cond (!r1) (some ([],(1:Int))) ((jM N a0 a1).bind fun r2=>cond (aA r2 0) (some ([],(3:Int))) ((Wg N r2 a2).bind fun r3=>cond (!r3.2) (some ([],(8:Int))) (cond (small (List.length bE+List.length a0)) (Ja a1 r3.1 (bE++a0) (0:Int)) (none))))
def mB(N:Nat)(a0:av)(a1:Int)(a2:Int):Option (av×(Int)):=mB.b N (mB.zR N N) a0 a1 a2
abbrev oh.bf:=aD→Int→(List (Int))→Int→Option (List (Int))
def oh.c7(N:Nat)(bh:oh.bf)(x0:aD)(x1:Int)(x5:List (Int))(x6:Int):Option (List (Int)):=
 cond (aG x6 (List.length x0:Int)) (cond (aI x6 (List.length x0)) (cond (aA (((List.getD x0 x6.toNat aJ).2).1) x1) (cond (aI x6 (List.length x0)) (cond (small (List.length x5+List.length ([(List.getD x0 x6.toNat aJ).1]))) (bh x0 x1 (x5++([(List.getD x0 x6.toNat aJ).1])) (W .i64 (x6+1))) (none)) (none)) (bh x0 x1 x5 (W .i64 (x6+1)))) (none)) (some x5)
def oh.l5(N:Nat):Nat→oh.bf
 |0,_,_,_,_=>none
 |n+1,x0,x1,x5,x6=>oh.c7 N (oh.l5 N n) x0 x1 x5 x6
def oh.b(N:Nat)(dw:oh.bf)(a0:aD)(a1:Int):Option (List (Int)):=
 (iU N a0).bind fun r1=>cond (!r1) (some ([])) (dw a0 a1 ([]) (0:Int))
def oh(N:Nat)(a0:aD)(a1:Int):Option (List (Int)):=oh.b N (oh.l5 N N) a0 a1
abbrev fl.jq:=aU→(List (Int))→aU→Int→Bool→Int→Option aU
abbrev fl.bf:=aU→(List (Int))→aU→Int→Option aU
def fl.tJ(N:Nat)(bh:fl.bf)(mX:fl.jq)(x0:aU)(x1:List (Int))(x5:aU)(x6:Int)(x7:Bool)(x8:Int):Option aU:=
 cond (aG x8 (List.length x1:Int)) (cond (x7) (mX x0 x1 x5 x6 true (W .i64 (x8+1))) (cond (aI x8 (List.length x1)) (cond (aI x6 (List.length x0)) (mX x0 x1 x5 x6 (aA (List.getD x1 x8.toNat (0:Int)) (((List.getD x0 x6.toNat dT).2).1)) (W .i64 (x8+1))) (none)) (none))) (cond (!x7) (cond (aI x6 (List.length x0)) (cond (small (List.length x5+List.length ([List.getD x0 x6.toNat dT]))) (bh x0 x1 (x5++([List.getD x0 x6.toNat dT])) (W .i64 (x6+1))) (none)) (none)) (bh x0 x1 x5 (W .i64 (x6+1))))
def fl.l9(N:Nat)(bh:fl.bf):Nat→fl.jq
 |0,_,_,_,_,_,_=>none
 |n+1,x0,x1,x5,x6,x7,x8=>fl.tJ N bh (fl.l9 N bh n) x0 x1 x5 x6 x7 x8
def fl.c7(N:Nat)(u2:fl.jq)(bh:fl.bf)(x0:aU)(x1:List (Int))(x5:aU)(x6:Int):Option aU:=
 cond (aG x6 (List.length x0:Int)) (u2 x0 x1 x5 x6 false (0:Int)) (some x5)
def fl.l5(N:Nat):Nat→fl.bf
 |0,_,_,_,_=>none
 |n+1,x0,x1,x5,x6=>fl.c7 N (fl.l9 N (fl.l5 N n) N) (fl.l5 N n) x0 x1 x5 x6
def fl.b(N:Nat)(dw:fl.bf)(a0:aU)(a1:List (Int)):Option aU:=
 (jL N a0).bind fun r1=>cond (!r1) (some ([])) (dw a0 a1 ([]) (0:Int))
def fl(N:Nat)(a0:aU)(a1:List (Int)):Option aU:=fl.b N (fl.l5 N N) a0 a1
def PN(N:Nat)(a0:aa)(a1:ag)(a2:Int):Option (ag×(Int)):=
 (bS N a0 a1).bind fun r1=>cond (!r1) (some ((bE,(cg,(aX,(aX,(cC,(cK,())))))),(1:Int))) ((vS N a1.1 a2).bind fun r2=>cond (aA r2 0) (some ((bE,(cg,(aX,(aX,(cC,(cK,())))))),(3:Int))) ((oh N a1.2.1 a2).bind fun r3=>(fl N a1.2.2.2.2.2.1 r3).bind fun r4=>some ((a1.1,(a1.2.1,(a1.2.2.1,(a1.2.2.2.1,(a1.2.2.2.2.1,(r4,a1.2.2.2.2.2.2)))))),(0:Int))))
def RK(N:Nat)(a0:bp):Option (Bool):=
 cond (bX 1 a0.1) (cond (bX a0.1 1099511627776) (cond (bX 1 a0.2.1) (cond (bX a0.2.1 1099511627776) (cond (bX 1 a0.2.2.1) (cond (bX a0.2.2.1 12) (cond (bX (-1152921504606846976) a0.2.2.2.1) (some (bX a0.2.2.2.1 1152921504606846976)) (some false)) (some false)) (some false)) (some false)) (some false)) (some false)) (some false)
abbrev dh.jq:=aD→Int→Int→Option (Bool)
abbrev dh.Tz:=aD→Int→Option (Bool)
abbrev dh.aY:=aD→Int→Option (Bool)
def dh.tJ(N:Nat)(bA:dh.aY)(mX:dh.jq)(x0:aD)(x3:Int)(x4:Int):Option (Bool):=
 cond (aG x4 x3) (cond (aI x4 (List.length x0)) (cond (aI x3 (List.length x0)) (cond (aA ((((List.getD x0 x4.toNat aJ).2).2).1) ((((List.getD x0 x3.toNat aJ).2).2).1)) (cond (aI x4 (List.length x0)) (cond (aI x3 (List.length x0)) (cond (aA (((List.getD x0 x4.toNat aJ).2).1) (((List.getD x0 x3.toNat aJ).2).1)) (some false) (mX x0 x3 (W .i64 (x4+1)))) (none)) (none)) (mX x0 x3 (W .i64 (x4+1)))) (none)) (none)) (bA x0 (W .i64 (x3+1)))
def dh.l9(N:Nat)(bA:dh.aY):Nat→dh.jq
 |0,_,_,_=>none
 |n+1,x0,x3,x4=>dh.tJ N bA (dh.l9 N bA n) x0 x3 x4
def dh.RZ(N:Nat)(u2:dh.jq)(bA:dh.aY)(x0:aD)(x3:Int):Option (Bool):=
 u2 x0 x3 (0:Int)
def dh.j8(N:Nat)(bA:dh.aY)(x0:aD)(x3:Int):Option (Bool):=dh.RZ N (dh.l9 N bA N) bA x0 x3
def dh.cD(N:Nat)(I6:dh.Tz)(bA:dh.aY)(x0:aD)(x3:Int):Option (Bool):=
 cond (aG x3 (List.length x0:Int)) (cond (aI x3 (List.length x0)) ((RK N (List.getD x0 x3.toNat aJ)).bind fun r2=>cond (!r2) (some false) (cond (aG 0 x3) (cond (aI x3 (List.length x0)) (let v3:Int:=W .i64 (x3-1);cond (aI v3 (List.length x0)) (cond (bX ((List.getD x0 x3.toNat aJ).1) ((List.getD x0 v3.toNat aJ).1)) (some false) (I6 x0 x3)) (none)) (none)) (I6 x0 x3))) (none)) (some true)
def dh.l4(N:Nat):Nat→dh.aY
 |0,_,_=>none
 |n+1,x0,x3=>dh.cD N (dh.j8 N (dh.l4 N n)) (dh.l4 N n) x0 x3
def dh.b(N:Nat)(c6:dh.aY)(a0:aD):Option (Bool):=
 cond (aG 40 (List.length a0:Int)) (some false) (c6 a0 (0:Int))
def dh(N:Nat)(a0:aD):Option (Bool):=dh.b N (dh.l4 N N) a0
abbrev mV.bf:=aD→Int→aD→Int→Option aD
def mV.c7(N:Nat)(bh:mV.bf)(x0:aD)(x1:Int)(x5:aD)(x6:Int):Option aD:=
 cond (aG x6 (List.length x0:Int)) (cond (aI x6 (List.length x0)) (cond (!aA ((((List.getD x0 x6.toNat aJ).2).2).1) x1) (cond (aI x6 (List.length x0)) (cond (small (List.length x5+List.length ([List.getD x0 x6.toNat aJ]))) (bh x0 x1 (x5++([List.getD x0 x6.toNat aJ])) (W .i64 (x6+1))) (none)) (none)) (bh x0 x1 x5 (W .i64 (x6+1)))) (none)) (some x5)
def mV.l5(N:Nat):Nat→mV.bf
 |0,_,_,_,_=>none
 |n+1,x0,x1,x5,x6=>mV.c7 N (mV.l5 N n) x0 x1 x5 x6
def mV.b(N:Nat)(dw:mV.bf)(a0:aD)(a1:Int):Option aD:=
 (dh N a0).bind fun r1=>cond (!r1) (some ([])) (dw a0 a1 ([]) (0:Int))
def mV(N:Nat)(a0:aD)(a1:Int):Option aD:=mV.b N (mV.l5 N N) a0 a1
def WA(N:Nat)(a0:aR)(a1:Int):Option (Bool):=
 cond (aA a1 14) (cond (aA a0.2.2.2.1.2.1 1) (some (aG a0.1 a0.2.2.2.1.2.2.1)) (some false)) (cond (aA a1 15) (cond (aA a0.2.2.2.1.2.1 1) (some (bX a0.2.2.2.1.2.2.1 a0.1)) (some false)) (cond (aA a1 19) (cond (aA a0.2.2.2.1.2.1 3) (some (aG a0.1 a0.2.2.2.1.2.2.1)) (some false)) (cond (aA a1 20) (cond (aA a0.2.2.2.1.2.1 3) (some (bX a0.2.2.2.1.2.2.1 a0.1)) (some false)) (some (aA a0.2.2.2.1.2.1 2)))))
def F5(N:Nat)(a0:ag)(a1:Int):Option (Int):=
 (vS N a0.1 a1).bind fun r1=>some r1
abbrev mW.bf:=av→Bool→aa→ax→ax→Int→Option (ax×(Int))
def mW.c7(N:Nat)(bh:mW.bf)(x1:av)(x2:Bool)(x3:aa)(x6:ax)(x8:ax)(x9:Int):Option (ax×(Int)):=
 cond (aG x9 (List.length x1:Int)) (cond (aI x9 (List.length x1)) (cond (aI ((List.getD x1 x9.toNat bL).1) (List.length x3.1)) (cond (x2) (cond (aI x9 (List.length x1)) (cond (aI ((List.getD x1 x9.toNat bL).1) (List.length x3.1)) (cond (aI x9 (List.length x1)) ((fQ N (((List.getD x1 x9.toNat bL).2).1)).bind fun r3=>(OQ N r3).bind fun r4=>(fQ N (((((List.getD x3.1 ((List.getD x1 x9.toNat bL).1).toNat aJ).2).2).2).1)).bind fun r5=>(gf N r4 r5).bind fun r6=>(uc N x8 r6).bind fun r7=>bh x1 x2 x3 x6 r7 (W .i64 (x9+1))) (none)) (none)) (none)) (cond (aI x9 (List.length x1)) ((fQ N (((List.getD x1 x9.toNat bL).2).1)).bind fun r9=>(OQ N r9).bind fun gA=>(fQ N ((((List.getD x3.1 ((List.getD x1 x9.toNat bL).1).toNat aJ).2).2).1)).bind fun jV=>(gf N gA jV).bind fun iX=>(uc N x8 iX).bind fun jE=>bh x1 x2 x3 x6 jE (W .i64 (x9+1))) (none))) (none)) (none)) (some (x8,(0:Int)))
def mW.l5(N:Nat):Nat→mW.bf
 |0,_,_,_,_,_,_=>none
 |n+1,x1,x2,x3,x6,x8,x9=>mW.c7 N (mW.l5 N n) x1 x2 x3 x6 x8 x9
def mW.b(N:Nat)(dw:mW.bf)(a0:aa)(a1:av)(a2:Bool):Option (ax×(Int)):=
 (kp N a0 a1).bind fun r1=>cond (!r1) (some ((false,kV),(1:Int))) (dw a1 a2 a0 (false,kV) (false,kV) (0:Int))
def mW(N:Nat)(a0:aa)(a1:av)(a2:Bool):Option (ax×(Int)):=mW.b N (mW.l5 N N) a0 a1 a2
def adA(N:Nat)(a0:aa)(a1:av):Option (ax×(Int)):=
 (mW N a0 a1 false).bind fun r1=>some (r1.1,r1.2)
def Mg(N:Nat)(a0:ag)(a1:Int):Option (Int):=
 (qZ N a0.2.2.1 (5:Int) a1).bind fun r1=>some r1
def Wo(N:Nat)(a0:aa)(a1:ag)(a2:Int)(a3:Int)(a4:Int):Option (Int):=
 (bS N a0 a1).bind fun r1=>cond (!r1) (some (1:Int)) ((A0 N a1.2.1 a4).bind fun r2=>cond (!r2.2) (some (3:Int)) ((F5 N a1 a2).bind fun r3=>cond (aA r3 0) (some (3:Int)) ((F5 N a1 a3).bind fun r4=>cond (aA r4 0) (some (3:Int)) (cond (!aA r2.1.2.1 a2) (some (8:Int)) (cond (!aA r2.1.2.2.1 2) (some (8:Int)) ((F5 N a1 a3).bind fun r5=>cond (!aA r5 1) (some (7:Int)) ((ug N a1.2.2.2.1 a4).bind fun r6=>(adA N a0 r6).bind fun r7=>(Mg N a1 a4).bind fun r8=>(fQ N r8).bind fun r9=>(DB N r9 r7.1).bind fun gA=>cond (aG gA 0) (some (10:Int)) (some (0:Int)))))))))
abbrev og.ew:=Int→Int→aD→Int→Option (aD×(Int))
def og.kt(N:Nat)(fF:og.ew)(x2:Int)(x3:Int)(bn:aD)(bu:Int):Option (aD×(Int)):=
 cond (aG bu (List.length bn:Int)) (cond (aI bu (List.length bn)) (cond (aA ((List.getD bn bu.toNat aJ).1) x2) (cond (aI bu (List.length bn)) (fF x2 x3 (List.set bn bu.toNat ((List.getD bn bu.toNat aJ).1,(x3,((List.getD bn bu.toNat aJ).2).2))) (W .i64 (bu+1))) (none)) (fF x2 x3 bn (W .i64 (bu+1)))) (none)) (some (bn,(0:Int)))
def og.mi(N:Nat):Nat→og.ew
 |0,_,_,_,_=>none
 |n+1,x2,x3,bn,bu=>og.kt N (og.mi N n) x2 x3 bn bu
def og.b(N:Nat)(qk:og.ew)(a0:av)(a1:aD)(a2:Int)(a3:Int):Option (aD×(Int)):=
 (ll N a0 a1).bind fun r1=>cond (!r1) (some ([],(1:Int))) ((kN N a1 a2).bind fun r2=>(jM N a0 a3).bind fun r3=>cond (!r2.2) (some ([],(3:Int))) (cond (aA r3 0) (some ([],(3:Int))) (cond (!aA r2.1.2.2.1 2) (some ([],(8:Int))) (cond (!aA r3 1) (some ([],(7:Int))) (cond (small (List.length cg+List.length a1)) (qk a2 a3 (cg++a1) (0:Int)) (none))))))
def og(N:Nat)(a0:av)(a1:aD)(a2:Int)(a3:Int):Option (aD×(Int)):=og.b N (og.mi N N) a0 a1 a2 a3
def Wn(N:Nat)(a0:aa)(a1:ag)(a2:Int)(a3:Int)(a4:Int):Option (ag×(Int)):=
 (Wo N a0 a1 a2 a3 a4).bind fun r1=>cond (!aA r1 0) (some ((bE,(cg,(aX,(aX,(cC,(cK,())))))),r1)) ((og N a1.1 a1.2.1 a4 a3).bind fun r2=>cond (!aA r2.2 0) (some ((bE,(cg,(aX,(aX,(cC,(cK,())))))),r2.2)) (some ((a1.1,(r2.1,a1.2.2)),(0:Int))))
def S8(N:Nat)(a0:aa)(a1:av):Option (ax×(Int)):=
 (mW N a0 a1 true).bind fun r1=>some (r1.1,r1.2)
def Wx(N:Nat)(a0:aa)(a1:ag)(a2:Int):Option ((Int)×(Int)):=
 (bS N a0 a1).bind fun r1=>cond (!r1) (some ((0:Int),(1:Int))) ((A0 N a1.2.1 a2).bind fun r2=>cond (!r2.2) (some ((0:Int),(3:Int))) ((ug N a1.2.2.2.1 a2).bind fun r3=>(S8 N a0 r3).bind fun r4=>(Mg N a1 a2).bind fun r5=>cond (bX r5 0) (some ((0:Int),(0:Int))) ((sx N r4.1).bind fun r6=>cond (r6.2) (cond (aG r6.1 r5) (some (r6.1,(0:Int))) (some (r5,(0:Int)))) (some (r5,(0:Int))))))
abbrev nv.bf:=aj→Int→Int→aj→Int→Option aj
def nv.c7(N:Nat)(bh:nv.bf)(x0:aj)(x1:Int)(x2:Int)(x7:aj)(x8:Int):Option aj:=
 cond (aG x8 (List.length x0:Int)) (cond (aI x8 (List.length x0)) (cond (aA ((List.getD x0 x8.toNat aM).1) x1) (cond (aI x8 (List.length x0)) (cond (aI x8 (List.length x0)) (let v3:Int:=W .i64 (0-((((List.getD x0 x8.toNat aM).2).2).1));cond (aI x8 (List.length x0)) (cond (aI x8 (List.length x0)) (cond (small (List.length x7+List.length ([(x1,(((List.getD x0 x8.toNat aM).2).1,(v3,()))),(x2,(((List.getD x0 x8.toNat aM).2).1,((((List.getD x0 x8.toNat aM).2).2).1,())))]))) (bh x0 x1 x2 (x7++([(x1,(((List.getD x0 x8.toNat aM).2).1,(v3,()))),(x2,(((List.getD x0 x8.toNat aM).2).1,((((List.getD x0 x8.toNat aM).2).2).1,())))])) (W .i64 (x8+1))) (none)) (none)) (none)) (none)) (none)) (bh x0 x1 x2 x7 (W .i64 (x8+1)))) (none)) (some x7)
def nv.l5(N:Nat):Nat→nv.bf
 |0,_,_,_,_,_=>none
 |n+1,x0,x1,x2,x7,x8=>nv.c7 N (nv.l5 N n) x0 x1 x2 x7 x8
def nv.b(N:Nat)(dw:nv.bf)(a0:aj)(a1:Int)(a2:Int):Option aj:=
 (vd N a0).bind fun r1=>cond (!r1) (some ([])) (cond (aA a1 a2) (some ([])) (cond (aG a1 0) (some ([])) (cond (aG 24 a1) (some ([])) (cond (aG a2 0) (some ([])) (cond (aG 24 a2) (some ([])) (dw a0 a1 a2 ([]) (0:Int)))))))
def nv(N:Nat)(a0:aj)(a1:Int)(a2:Int):Option aj:=nv.b N (nv.l5 N N) a0 a1 a2
abbrev gd.wH:=Int→aa→ag→ag→aj→bx→Int→bp→Option (ag×(Int))
abbrev gd.fV:=Int→aa→ag→ag→aj→bx→Int→Option (ag×(Int))
def gd.qg(N:Nat)(dW:gd.fV)(x2:Int)(x3:aa)(x4:ag)(x6:ag)(x8:aj)(x9:bx)(aQ:Int)(aK:bp):Option (ag×(Int)):=
 (Mg N x4 aK.1).bind fun gA=>cond (aG gA 0) ((fQ N gA).bind fun jV=>(Qn N jV).bind fun iX=>(BW N (2:Int) (0:Int) (5:Int) aK.1 iX).bind fun jE=>cond (small (List.length x9+List.length jE)) ((nv N x4.2.2.2.1 aK.1 (0:Int)).bind fun ob=>cond (small (List.length x8+List.length ob)) (dW x2 x3 x4 x6 (x8++ob) (x9++jE) (W .i64 (aQ+1))) (none)) (none)) ((nv N x4.2.2.2.1 aK.1 (0:Int)).bind fun uk=>cond (small (List.length x8+List.length uk)) (dW x2 x3 x4 x6 (x8++uk) x9 (W .i64 (aQ+1))) (none))
def gd.wT(N:Nat)(dW:gd.fV)(x2:Int)(x3:aa)(x4:ag)(x6:ag)(x8:aj)(x9:bx)(aQ:Int)(aK:bp):Option (ag×(Int)):=gd.qg N dW x2 x3 x4 x6 x8 x9 aQ aK
def gd.zL(N:Nat)(m5:gd.wH)(dW:gd.fV)(x2:Int)(x3:aa)(x4:ag)(x6:ag)(x8:aj)(x9:bx)(aQ:Int):Option (ag×(Int)):=
 cond (aG aQ (List.length x4.2.1:Int)) (cond (aI aQ (List.length x4.2.1)) (cond (!aA (((List.getD x4.2.1 aQ.toNat aJ).2).1) x2) (dW x2 x3 x4 x6 x8 x9 (W .i64 (aQ+1))) (cond (aA ((((List.getD x4.2.1 aQ.toNat aJ).2).2).1) (2:Int)) ((Wx N x3 x4 ((List.getD x4.2.1 aQ.toNat aJ).1)).bind fun r5=>(fQ N r5.1).bind fun r6=>(BW N (5:Int) ((List.getD x4.2.1 aQ.toNat aJ).1) (2:Int) (0:Int) r6).bind fun r7=>cond (small (List.length x9+List.length r7)) (m5 x2 x3 x4 x6 x8 (x9++r7) aQ (List.getD x4.2.1 aQ.toNat aJ)) (none)) (m5 x2 x3 x4 x6 x8 x9 aQ (List.getD x4.2.1 aQ.toNat aJ)))) (none)) ((xl N x4 x8 x9).bind fun KG=>some (KG.1,KG.2))
def gd.l8(N:Nat):Nat→gd.fV
 |0,_,_,_,_,_,_,_=>none
 |n+1,x2,x3,x4,x6,x8,x9,aQ=>gd.zL N (gd.wT N (gd.l8 N n)) (gd.l8 N n) x2 x3 x4 x6 x8 x9 aQ
def gd.b(N:Nat)(Cc:gd.fV)(a0:aa)(a1:ag)(a2:Int):Option (ag×(Int)):=
 (bS N a0 a1).bind fun r1=>cond (!r1) (some ((bE,(cg,(aX,(aX,(cC,(cK,())))))),(1:Int))) ((F5 N a1 a2).bind fun r2=>cond (aA r2 0) (some ((bE,(cg,(aX,(aX,(cC,(cK,())))))),(3:Int))) (Cc a2 a0 a1 (bE,(cg,(aX,(aX,(cC,(cK,())))))) ([]) ([]) (0:Int)))
def gd(N:Nat)(a0:aa)(a1:ag)(a2:Int):Option (ag×(Int)):=gd.b N (gd.l8 N N) a0 a1 a2
abbrev jO.bf:=aa→ag→iw→Int→Option (iw×(Int))
def jO.c7(N:Nat)(bh:jO.bf)(x2:aa)(x3:ag)(x6:iw)(x7:Int):Option (iw×(Int)):=
 cond (aG x7 (List.length x2.1:Int)) (cond (aI x7 (List.length x2.1)) (cond (aI ((List.getD x2.1 x7.toNat aJ).1) (List.length x6)) ((wS N x3.2.2.2.1 (0:Int) x7).bind fun r4=>(fQ N r4).bind fun r5=>cond (aI x7 (List.length x3.2.2.2.2.1)) ((fQ N (List.getD x3.2.2.2.2.1 x7.toNat (0:Int))).bind fun r6=>(gf N r5 r6).bind fun r7=>(uc N (List.getD x6 ((List.getD x2.1 x7.toNat aJ).1).toNat (false,kV)) r7).bind fun r8=>cond (aI ((List.getD x2.1 x7.toNat aJ).1) (List.length x6)) (bh x2 x3 (List.set x6 ((List.getD x2.1 x7.toNat aJ).1).toNat r8) (W .i64 (x7+1))) (none)) (none)) (none)) (none)) (some (x6,(0:Int)))
def jO.l5(N:Nat):Nat→jO.bf
 |0,_,_,_,_=>none
 |n+1,x2,x3,x6,x7=>jO.c7 N (jO.l5 N n) x2 x3 x6 x7
def jO.b(N:Nat)(dw:jO.bf)(a0:aa)(a1:ag):Option (iw×(Int)):=
 (bS N a0 a1).bind fun r1=>cond (!r1) (some ([],(1:Int))) (cond (gg 4 4) (dw a0 a1 (List.replicate (4:Int).toNat (false,kV)) (0:Int)) (none))
def jO(N:Nat)(a0:aa)(a1:ag):Option (iw×(Int)):=jO.b N (jO.l5 N N) a0 a1
abbrev yz.bf:=Int→aa→(List (Int))→Int→Option (List (Int))
def yz.c7(N:Nat)(bh:yz.bf)(x1:Int)(x2:aa)(x5:List (Int))(x6:Int):Option (List (Int)):=
 cond (aG x6 (List.length x2.1:Int)) (cond (aI x6 (List.length x2.1)) (cond (aA ((List.getD x2.1 x6.toNat aJ).1) x1) (cond (small (List.length x5+List.length ([x6]))) (bh x1 x2 (x5++([x6])) (W .i64 (x6+1))) (none)) (bh x1 x2 x5 (W .i64 (x6+1)))) (none)) (some x5)
def yz.l5(N:Nat):Nat→yz.bf
 |0,_,_,_,_=>none
 |n+1,x1,x2,x5,x6=>yz.c7 N (yz.l5 N n) x1 x2 x5 x6
def yz.b(N:Nat)(dw:yz.bf)(a0:aa)(a1:Int):Option (List (Int)):=
 (jd N a0).bind fun r1=>cond (!r1) (some ([])) (dw a1 a0 ([]) (0:Int))
def yz(N:Nat)(a0:aa)(a1:Int):Option (List (Int)):=yz.b N (yz.l5 N N) a0 a1
abbrev mJ.aY:=(List (Int))→(List (Int))→Int→Int→Option ((List (Int))×(Int))
def mJ.cD(N:Nat)(bA:mJ.aY)(x0:List (Int))(x4:List (Int))(x5:Int)(x6:Int):Option ((List (Int))×(Int)):=
 cond (bX 0 x6) (cond (aG 32 0) (none) (cond (aI x6 (List.length x0)) (let v5:Int:=jH .or .u64 (W .u64 (shl .u64 x5 32)) (List.getD x0 x6.toNat (0:Int));cond (aG 1 0) (none) (cond (aI x6 (List.length x4)) (bA x0 (List.set x4 x6.toNat (shr .u64 v5 1)) (jH .and .u64 v5 1) (W .i64 (x6-1))) (none))) (none))) ((la N x4).bind fun gA=>some (gA,x5))
def mJ.l4(N:Nat):Nat→mJ.aY
 |0,_,_,_,_=>none
 |n+1,x0,x4,x5,x6=>mJ.cD N (mJ.l4 N n) x0 x4 x5 x6
def mJ.b(N:Nat)(c6:mJ.aY)(a0:List (Int)):Option ((List (Int))×(Int)):=
 cond (gg (List.length a0:Int) (List.length a0:Int)) (c6 a0 (List.replicate (List.length a0:Int).toNat (0:Int)) (0:Int) (W .i64 ((List.length a0:Int)-1))) (none)
def mJ(N:Nat)(a0:List (Int)):Option ((List (Int))×(Int)):=mJ.b N (mJ.l4 N N) a0
abbrev fk.jq:=ax→ax→ax→ax→(List (Int))→ax→ax→Int→Option (ax×ax)
abbrev fk.c0:=ax→ax→ax→ax→(List (Int))→(List (Int))→Option (ax×ax)
def fk.tJ(N:Nat)(mX:fk.jq)(x2:ax)(x3:ax)(x4:ax)(x5:ax)(x6:List (Int))(aQ:ax)(aK:ax)(aP:Int):Option (ax×ax):=
 cond (bX 0 aP) ((uc N aQ aQ).bind fun r6=>(uc N aK aK).bind fun r7=>cond (aI aP (List.length x6)) (cond (aA (List.getD x6 aP.toNat (0:Int)) (1:Int)) ((fQ N (1:Int)).bind fun r8=>(uc N r7 r8).bind fun r9=>(DB N r9 x3).bind fun gA=>cond (bX 0 gA) ((KC N r9 x3).bind fun jV=>(fQ N (1:Int)).bind fun iX=>(uc N r6 iX).bind fun jE=>mX x2 x3 x4 x5 x6 jE jV (W .i64 (aP-1))) (mX x2 x3 x4 x5 x6 r6 r9 (W .i64 (aP-1)))) ((DB N r7 x3).bind fun ri=>cond (bX 0 ri) ((KC N r7 x3).bind fun rO=>(fQ N (1:Int)).bind fun uk=>(uc N r6 uk).bind fun Jc=>mX x2 x3 x4 x5 x6 Jc rO (W .i64 (aP-1))) (mX x2 x3 x4 x5 x6 r6 r7 (W .i64 (aP-1))))) (none)) (cond (!x2.1) (some (aQ,aK)) ((Nl N aK).bind fun KJ=>cond (aA KJ 0) ((Qn N aQ).bind fun B4=>some (B4,aK)) ((Qn N aQ).bind fun Gy=>(fQ N (1:Int)).bind fun EB=>(KC N Gy EB).bind fun yN=>(KC N x3 aK).bind fun Qa=>some (yN,Qa))))
def fk.l9(N:Nat):Nat→fk.jq
 |0,_,_,_,_,_,_,_,_=>none
 |n+1,x2,x3,x4,x5,x6,aQ,aK,aP=>fk.tJ N (fk.l9 N n) x2 x3 x4 x5 x6 aQ aK aP
def fk.jU(N:Nat)(u2:fk.jq)(cG:fk.c0)(x2:ax)(x3:ax)(x4:ax)(x5:ax)(x6:List (Int))(x7:List (Int)):Option (ax×ax):=
 cond (aG 0 (List.length x7:Int)) ((mJ N x7).bind fun r2=>cond (small (List.length x6+List.length ([r2.2]))) (cG x2 x3 x4 x5 (x6++([r2.2])) r2.1) (none)) (u2 x2 x3 x4 x5 x6 (false,kV) (false,kV) (W .i64 ((List.length x6:Int)-1)))
def fk.l3(N:Nat):Nat→fk.c0
 |0,_,_,_,_,_,_=>none
 |n+1,x2,x3,x4,x5,x6,x7=>fk.jU N (fk.l9 N N) (fk.l3 N n) x2 x3 x4 x5 x6 x7
def fk.b(N:Nat)(lC:fk.c0)(a0:ax)(a1:ax):Option (ax×ax):=
 lC a0 a1 (false,kV) (false,kV) ([]) a0.2.1
def fk(N:Nat)(a0:ax)(a1:ax):Option (ax×ax):=fk.b N (fk.l3 N N) a0 a1
abbrev mT.wH:=Int→aa→ag→iw→aD→Int→(List (Int))→Int→Option (aD×(Int))
abbrev mT.fe:=Int→aa→ag→iw→aD→Int→Option (aD×(Int))
def mT.qg(N:Nat)(ff:mT.fe)(x2:Int)(x3:aa)(x4:ag)(x8:iw)(aQ:aD)(aK:Int)(aP:List (Int))(db:Int):Option (aD×(Int)):=
 cond (aA db 0) (ff x2 x3 x4 x8 aQ (W .i64 (aK+1))) (cond (aI 0 (List.length aP)) (cond (aI aK (List.length x8)) ((Nl N (List.getD x8 aK.toNat (false,kV))).bind fun mF=>cond (aG 0 mF) (cond (small (List.length aQ+List.length ([(x2,(List.getD aP (0:Int).toNat (0:Int),((2:Int),(db,()))))]))) (ff (W .i64 (x2+1)) x3 x4 x8 (aQ++([(x2,(List.getD aP (0:Int).toNat (0:Int),((2:Int),(db,()))))])) (W .i64 (aK+1))) (none)) (cond (small (List.length aQ+List.length ([(x2,(List.getD aP (0:Int).toNat (0:Int),((1:Int),(db,()))))]))) (ff (W .i64 (x2+1)) x3 x4 x8 (aQ++([(x2,(List.getD aP (0:Int).toNat (0:Int),((1:Int),(db,()))))])) (W .i64 (aK+1))) (none))) (none)) (none))
def mT.wT(N:Nat)(ff:mT.fe)(x2:Int)(x3:aa)(x4:ag)(x8:iw)(aQ:aD)(aK:Int)(aP:List (Int))(db:Int):Option (aD×(Int)):=mT.qg N ff x2 x3 x4 x8 aQ aK aP db
def mT.pE(N:Nat)(m5:mT.wH)(ff:mT.fe)(x2:Int)(x3:aa)(x4:ag)(x8:iw)(aQ:aD)(aK:Int):Option (aD×(Int)):=
 cond (aG aK 4) ((yz N x3 aK).bind fun r3=>cond (aI aK (List.length x8)) ((OQ N (List.getD x8 aK.toNat (false,kV))).bind fun r4=>cond (aA (List.length r3:Int) 0) (ff x2 x3 x4 x8 aQ (W .i64 (aK+1))) ((fQ N x3.2.2.2.2.2.2.1).bind fun r6=>(DB N r4 r6).bind fun r7=>cond (bX r7 0) (ff x2 x3 x4 x8 aQ (W .i64 (aK+1))) (cond (aI 0 (List.length r3)) (cond (aI (List.getD r3 (0:Int).toNat (0:Int)) (List.length x4.2.2.2.2.1)) ((fQ N (List.getD x4.2.2.2.2.1 (List.getD r3 (0:Int).toNat (0:Int)).toNat (0:Int))).bind fun r9=>(fk N r4 r9).bind fun gA=>(sx N gA.1).bind fun jV=>cond (!jV.2) (m5 x2 x3 x4 x8 aQ aK r3 (1000000000:Int)) (cond (aG 1000000000 jV.1) (m5 x2 x3 x4 x8 aQ aK r3 (1000000000:Int)) (m5 x2 x3 x4 x8 aQ aK r3 jV.1))) (none)) (none)))) (none)) (some (aQ,(0:Int)))
def mT.l6(N:Nat):Nat→mT.fe
 |0,_,_,_,_,_,_=>none
 |n+1,x2,x3,x4,x8,aQ,aK=>mT.pE N (mT.wT N (mT.l6 N n)) (mT.l6 N n) x2 x3 x4 x8 aQ aK
def mT.b(N:Nat)(rr:mT.fe)(a0:aa)(a1:ag)(a2:Int):Option (aD×(Int)):=
 (jO N a0 a1).bind fun r1=>cond (!aA r1.2 0) (some ([],(1:Int))) (cond (aG a2 1) (some ([],(1:Int))) (cond (aG 1099511627772 a2) (some ([],(1:Int))) (rr a2 a0 a1 r1.1 ([]) (0:Int))))
def mT(N:Nat)(a0:aa)(a1:ag)(a2:Int):Option (aD×(Int)):=mT.b N (mT.l6 N N) a0 a1 a2
def PD(N:Nat)(a0:bp):Option (Bool):=
 cond (bX 1 a0.1) (cond (bX a0.1 1099511627776) (cond (bX 0 a0.2.1) (cond (aG a0.2.1 6) (cond (aA a0.2.2.1 1) (cond (bX 1 a0.2.2.2.1) (some (bX a0.2.2.2.1 1000000000)) (some false)) (cond (aA a0.2.2.1 2) (cond (bX 1 a0.2.2.2.1) (some (bX a0.2.2.2.1 1000000000)) (some false)) (some false))) (some false)) (some false)) (some false)) (some false)
abbrev mz.ajn:=Int→aa→ag→bp→ag→bp→gk→Option (ag×bp×(Int))
def mz.V2(N:Nat)(x4:Int)(x6:aa)(x7:ag)(x8:bp)(aP:ag)(bn:bp)(cV:gk):Option (ag×bp×(Int)):=
 (eg N x6 x7 ([cV])).bind fun r6=>cond (!aA r6.2 0) (some ((bE,(cg,(aX,(aX,(cC,(cK,())))))),aJ,r6.2)) (some (r6.1,(x8.1,(x8.2.1,(x8.2.2.1,((W .i64 (x8.2.2.2.1-x4)),x8.2.2.2.2)))),(0:Int)))
def mz.j14(N:Nat)(x4:Int)(x6:aa)(x7:ag)(x8:bp)(aP:ag)(bn:bp)(cV:gk):Option (ag×bp×(Int)):=mz.V2 N x4 x6 x7 x8 aP bn cV
def mz.b(N:Nat)(abB:mz.ajn)(a0:aa)(a1:ag)(a2:bp)(a3:Int)(a4:Int)(a5:Int):Option (ag×bp×(Int)):=
 (bS N a0 a1).bind fun r1=>cond (!r1) (some ((bE,(cg,(aX,(aX,(cC,(cK,())))))),aJ,(1:Int))) ((PD N a2).bind fun r2=>cond (!r2) (some ((bE,(cg,(aX,(aX,(cC,(cK,())))))),aJ,(1:Int))) (cond (aG a4 1) (some ((bE,(cg,(aX,(aX,(cC,(cK,())))))),aJ,(1:Int))) (cond (aG 1000000000 a4) (some ((bE,(cg,(aX,(aX,(cC,(cK,())))))),aJ,(1:Int))) (cond (aG a5 1) (some ((bE,(cg,(aX,(aX,(cC,(cK,())))))),aJ,(1:Int))) (cond (aG 1000000000000 a5) (some ((bE,(cg,(aX,(aX,(cC,(cK,())))))),aJ,(1:Int))) (cond (aG a2.2.2.2.1 a4) (some ((bE,(cg,(aX,(aX,(cC,(cK,())))))),aJ,(9:Int))) (cond (aG a3 1) (some ((bE,(cg,(aX,(aX,(cC,(cK,())))))),aJ,(1:Int))) (cond (aG 24 a3) (some ((bE,(cg,(aX,(aX,(cC,(cK,())))))),aJ,(1:Int))) ((II N a0 a1 (a2.1,(a3,(a2.2.1,((W .i64 ((3:Int)-a2.2.2.1)),(a4,(a5,()))))))).bind fun r4=>cond (!aA r4 0) (some ((bE,(cg,(aX,(aX,(cC,(cK,())))))),aJ,r4)) (cond (aA a2.2.2.1 2) (abB a4 a0 a1 a2 (bE,(cg,(aX,(aX,(cC,(cK,())))))) aJ (a3,((0:Int),(a2.2.1,(a4,(a5,())))))) (abB a4 a0 a1 a2 (bE,(cg,(aX,(aX,(cC,(cK,())))))) aJ ((0:Int),(a3,(a2.2.1,(a4,(a5,()))))))))))))))))
def mz(N:Nat)(a0:aa)(a1:ag)(a2:bp)(a3:Int)(a4:Int)(a5:Int):Option (ag×bp×(Int)):=mz.b N (mz.j14 N) a0 a1 a2 a3 a4 a5
abbrev ox.bf:=aa→aR→fU→aR→bY→aD→Bool→Int→Int→Option (aR×bY)
def ox.c7(N:Nat)(bh:ox.bf)(x3:aa)(x4:aR)(x5:fU)(x6:aR)(x7:bY)(x8:aD)(x9:Bool)(aQ:Int)(aK:Int):Option (aR×bY):=
 cond (aG aK (List.length x4.2.2.2.1.2.2.2.2.1:Int)) (cond (aI aK (List.length x4.2.2.2.1.2.2.2.2.1)) (cond (aA ((List.getD x4.2.2.2.1.2.2.2.2.1 aK.toNat aJ).1) x5.2.2.2.2.2.1) ((mz N x3 x4.2.2.1 (List.getD x4.2.2.2.1.2.2.2.2.1 aK.toNat aJ) x5.2.2.1 x5.2.2.2.2.2.2.1 x5.2.2.2.2.2.2.2.1).bind fun r2=>cond (!aA r2.2.2 0) ((et N r2.2.2).bind fun r3=>some (x4,r3)) (cond (aG 0 r2.2.1.2.2.2.1) (cond (small (List.length x8+List.length ([r2.2.1]))) (bh x3 (x4.1,(x4.2.1,(r2.1,x4.2.2.2))) x5 x6 x7 (x8++([r2.2.1])) true r2.2.1.2.2.2.1 (W .i64 (aK+1))) (none)) (bh x3 (x4.1,(x4.2.1,(r2.1,x4.2.2.2))) x5 x6 x7 x8 true r2.2.1.2.2.2.1 (W .i64 (aK+1))))) (cond (aG 0 (((((List.getD x4.2.2.2.1.2.2.2.2.1 aK.toNat aJ).2).2).2).1)) (cond (small (List.length x8+List.length ([List.getD x4.2.2.2.1.2.2.2.2.1 aK.toNat aJ]))) (bh x3 x4 x5 x6 x7 (x8++([List.getD x4.2.2.2.1.2.2.2.2.1 aK.toNat aJ])) x9 aQ (W .i64 (aK+1))) (none)) (bh x3 x4 x5 x6 x7 x8 x9 aQ (W .i64 (aK+1))))) (none)) (cond (!x9) ((et N (3:Int)).bind fun gA=>some (x4,gA)) (some ((x4.1,(x4.2.1,(x4.2.2.1,((x4.2.2.2.1.1,(x4.2.2.2.1.2.1,(x4.2.2.2.1.2.2.1,(x4.2.2.2.1.2.2.2.1,(x8,x4.2.2.2.1.2.2.2.2.2))))),x4.2.2.2.2)))),((0:Int),((0:Int),(aQ,()))))))
def ox.l5(N:Nat):Nat→ox.bf
 |0,_,_,_,_,_,_,_,_,_=>none
 |n+1,x3,x4,x5,x6,x7,x8,x9,aQ,aK=>ox.c7 N (ox.l5 N n) x3 x4 x5 x6 x7 x8 x9 aQ aK
def ox.b(N:Nat)(dw:ox.bf)(a0:aa)(a1:aR)(a2:fU):Option (aR×bY):=
 dw a0 a1 a2 ((0:Int),((0:Int),((bE,(cg,(aX,(aX,(cC,(cK,())))))),(((0:Int),((0:Int),((0:Int),((0:Int),(cg,(([]:List ((Int)×((List ((Int)×((Int)×(Unit))))×((Int)×((Int)×((Int)×((Int)×(Unit)))))))),(cg,(cC,(bE,(bE,())))))))))),(((0:Int),((0:Int),(zA,((0:Int),())))),()))))) aM ([]) false (0:Int) (0:Int)
def ox(N:Nat)(a0:aa)(a1:aR)(a2:fU):Option (aR×bY):=ox.b N (ox.l5 N N) a0 a1 a2
abbrev om.aY:=Int→ax→Int→Option (Int)
def om.cD(N:Nat)(bA:om.aY)(x1:Int)(x2:ax)(x5:Int):Option (Int):=
 cond (aG x5 3) ((fQ N x5).bind fun r3=>(fQ N x1).bind fun r4=>(gf N r3 r4).bind fun r5=>(DB N r5 x2).bind fun r6=>cond (aG r6 0) (bA x1 x2 (W .i64 (x5+1))) (some x5)) (some x5)
def om.l4(N:Nat):Nat→om.aY
 |0,_,_,_=>none
 |n+1,x1,x2,x5=>om.cD N (om.l4 N n) x1 x2 x5
def om.b(N:Nat)(c6:om.aY)(a0:ax)(a1:Int):Option (Int):=
 (Nl N a0).bind fun r1=>cond (bX r1 0) (some (0:Int)) (cond (aG a1 1) (some (0:Int)) (c6 a1 a0 (1:Int)))
def om(N:Nat)(a0:ax)(a1:Int):Option (Int):=om.b N (om.l4 N N) a0 a1
abbrev mS.aY:=(List (Int))→Int→Option (Bool)
def mS.cD(N:Nat)(bA:mS.aY)(x1:List (Int))(x5:Int):Option (Bool):=
 cond (aG x5 (List.length x1:Int)) (cond (aI x5 (List.length x1)) (cond (aG (List.getD x1 x5.toNat (0:Int)) (0:Int)) (some true) (bA x1 (W .i64 (x5+1)))) (none)) (some false)
def mS.l4(N:Nat):Nat→mS.aY
 |0,_,_=>none
 |n+1,x1,x5=>mS.cD N (mS.l4 N n) x1 x5
def mS.b(N:Nat)(c6:mS.aY)(a0:Int)(a1:List (Int)):Option (Bool):=
 cond (aG a0 0) (some true) (cond (aG 64 (List.length a1:Int)) (some true) (c6 a1 (0:Int)))
def mS(N:Nat)(a0:Int)(a1:List (Int)):Option (Bool):=mS.b N (mS.l4 N N) a0 a1
abbrev mI.c0:=(List (Int))→ax→ax→Int→Option ax
def mI.jU(N:Nat)(cG:mI.c0)(x0:List (Int))(x2:ax)(x3:ax)(x4:Int):Option ax:=
 cond (aG x4 (List.length x0:Int)) (cond (aI x4 (List.length x0)) ((fQ N (List.getD x0 x4.toNat (0:Int))).bind fun r2=>(uc N x3 r2).bind fun r3=>cG x0 x2 r3 (W .i64 (x4+1))) (none)) (some x3)
def mI.l3(N:Nat):Nat→mI.c0
 |0,_,_,_,_=>none
 |n+1,x0,x2,x3,x4=>mI.jU N (mI.l3 N n) x0 x2 x3 x4
def mI.b(N:Nat)(lC:mI.c0)(a0:List (Int)):Option ax:=
 lC a0 (false,kV) (false,kV) (0:Int)
def mI(N:Nat)(a0:List (Int)):Option ax:=mI.b N (mI.l3 N N) a0
abbrev dJ.Tz:=(List (Int))→(List (Int))→Int→Int→Option (List (Int))
abbrev dJ.fe:=(List (Int))→(List (Int))→Int→Int→Option (List (Int))
abbrev dJ.c0:=(List (Int))→(List (Int))→Int→Option (List (Int))
def dJ.RZ(N:Nat)(cG:dJ.c0)(x0:List (Int))(x3:List (Int))(x4:Int)(x5:Int):Option (List (Int)):=
 cond (gH 0 x5 (List.length x3:Int) (List.length x3:Int)) (let v5:List (Int):=List.drop (0:Int).toNat (List.take x5.toNat x3);cond (small (List.length v5)) (cond (small (List.length v5+List.length ([x4]))) (let v6:List (Int):=v5++([x4]);cond (gH x5 (List.length x3:Int) (List.length x3:Int) (List.length x3:Int)) (let v7:List (Int):=List.drop x5.toNat (List.take (List.length x3:Int).toNat x3);cond (small (List.length v6+List.length v7)) (cG x0 (v6++v7) (W .i64 (x4+1))) (none)) (none)) (none)) (none)) (none)
def dJ.j8(N:Nat)(cG:dJ.c0)(x0:List (Int))(x3:List (Int))(x4:Int)(x5:Int):Option (List (Int)):=dJ.RZ N cG x0 x3 x4 x5
def dJ.pE(N:Nat)(I6:dJ.Tz)(cG:dJ.c0)(ff:dJ.fe)(x0:List (Int))(x3:List (Int))(x4:Int)(x5:Int):Option (List (Int)):=
 cond (aG x5 (List.length x3:Int)) (cond (aI x5 (List.length x3)) (cond (aI (List.getD x3 x5.toNat (0:Int)) (List.length x0)) (cond (aI x4 (List.length x0)) (cond (bX (List.getD x0 x4.toNat (0:Int)) (List.getD x0 (List.getD x3 x5.toNat (0:Int)).toNat (0:Int))) (ff x0 x3 x4 (W .i64 (x5+1))) (I6 x0 x3 x4 x5)) (none)) (none)) (none)) (I6 x0 x3 x4 x5)
def dJ.l6(N:Nat)(cG:dJ.c0):Nat→dJ.fe
 |0,_,_,_,_=>none
 |n+1,x0,x3,x4,x5=>dJ.pE N (dJ.j8 N cG) cG (dJ.l6 N cG n) x0 x3 x4 x5
def dJ.jU(N:Nat)(rr:dJ.fe)(cG:dJ.c0)(x0:List (Int))(x3:List (Int))(x4:Int):Option (List (Int)):=
 cond (aG x4 (List.length x0:Int)) (rr x0 x3 x4 (0:Int)) (some x3)
def dJ.l3(N:Nat):Nat→dJ.c0
 |0,_,_,_=>none
 |n+1,x0,x3,x4=>dJ.jU N (dJ.l6 N (dJ.l3 N n) N) (dJ.l3 N n) x0 x3 x4
def dJ.b(N:Nat)(lC:dJ.c0)(a0:List (Int)):Option (List (Int)):=
 lC a0 ([]) (0:Int)
def dJ(N:Nat)(a0:List (Int)):Option (List (Int)):=dJ.b N (dJ.l3 N N) a0
abbrev dQ.oA:=(List (Int))→Int→(List (Int))→Int→Option ((List (Int))×(Int))
abbrev dQ.sV:=Int→(List (Int))→ax→(List (Int))→(List (Int))→Int→Int→Option ((List (Int))×(Int))
abbrev dQ.Ms:=Int→(List (Int))→ax→Option ((List (Int))×(Int))
def dQ.sD(N:Nat)(B3:dQ.oA)(x9:List (Int))(aK:Int)(cc:List (Int))(db:Int):Option ((List (Int))×(Int)):=
 cond (aG db (List.length cc:Int)) (cond (aG 0 aK) (cond (aI db (List.length cc)) (cond (aI (List.getD cc db.toNat (0:Int)) (List.length x9)) (cond (aI (List.getD cc db.toNat (0:Int)) (List.length x9)) (B3 (List.set x9 (List.getD cc db.toNat (0:Int)).toNat (W .i64 ((List.getD x9 (List.getD cc db.toNat (0:Int)).toNat (0:Int))+1))) (W .i64 (aK-1)) cc (W .i64 (db+1))) (none)) (none)) (none)) (some (x9,(0:Int)))) (some (x9,(0:Int)))
def dQ.tL(N:Nat):Nat→dQ.oA
 |0,_,_,_,_=>none
 |n+1,x9,aK,cc,db=>dQ.sD N (dQ.tL N n) x9 aK cc db
def dQ.Bv(N:Nat)(B5:dQ.oA)(yP:dQ.sV)(x0:Int)(x1:List (Int))(x6:ax)(x9:List (Int))(aQ:List (Int))(aK:Int)(aP:Int):Option ((List (Int))×(Int)):=
 cond (aG aP (List.length x1:Int)) ((fQ N x0).bind fun gA=>cond (aI aP (List.length x1)) ((fQ N (List.getD x1 aP.toNat (0:Int))).bind fun jV=>(gf N gA jV).bind fun iX=>(fk N iX x6).bind fun jE=>(sx N jE.1).bind fun mF=>cond (aI aP (List.length x9)) (let WK:List (Int):=List.set x9 aP.toNat mF.1;(sx N jE.2).bind fun ri=>cond (aI aP (List.length aQ)) (cond (aI aP (List.length WK)) (yP x0 x1 x6 WK (List.set aQ aP.toNat ri.1) (W .i64 (aK-(List.getD WK aP.toNat (0:Int)))) (W .i64 (aP+1))) (none)) (none)) (none)) (none)) ((dJ N aQ).bind fun Cu=>B5 x9 aK Cu (0:Int))
def dQ.D5(N:Nat):Nat→dQ.sV
 |0,_,_,_,_,_,_,_=>none
 |n+1,x0,x1,x6,x9,aQ,aK,aP=>dQ.Bv N (dQ.tL N N) (dQ.D5 N n) x0 x1 x6 x9 aQ aK aP
def dQ.KB(N:Nat)(Jb:dQ.sV)(x0:Int)(x1:List (Int))(x6:ax):Option ((List (Int))×(Int)):=
 (sx N x6).bind fun r5=>cond (!r5.2) (some ([],(2:Int))) (cond (gg (List.length x1:Int) (List.length x1:Int)) (let v6:List (Int):=List.replicate (List.length x1:Int).toNat (0:Int);cond (gg (List.length x1:Int) (List.length x1:Int)) ((Nl N x6).bind fun r8=>cond (aA r8 0) (some (v6,(0:Int))) (Jb x0 x1 x6 v6 (List.replicate (List.length x1:Int).toNat (0:Int)) x0 (0:Int))) (none)) (none))
def dQ.j6(N:Nat)(x0:Int)(x1:List (Int))(x6:ax):Option ((List (Int))×(Int)):=dQ.KB N (dQ.D5 N N) x0 x1 x6
def dQ.b(N:Nat)(xB:dQ.Ms)(a0:Int)(a1:List (Int)):Option ((List (Int))×(Int)):=
 (mS N a0 a1).bind fun r1=>cond (r1) (some ([],(1:Int))) ((mI N a1).bind fun r2=>(Nl N r2).bind fun r3=>cond (aA r3 0) (cond (!aA a0 0) (some ([],(1:Int))) (xB a0 a1 r2)) (xB a0 a1 r2))
def dQ(N:Nat)(a0:Int)(a1:List (Int)):Option ((List (Int))×(Int)):=dQ.b N (dQ.j6 N) a0 a1
abbrev n8.bf:=Int→Int→(List (Int))→Int→Option ((List (Int))×(Int))
def n8.c7(N:Nat)(bh:n8.bf)(x0:Int)(x1:Int)(x6:List (Int))(x7:Int):Option ((List (Int))×(Int)):=
 cond (aG x7 x1) (cond (aI x7 (List.length x6)) (bh x0 x1 (List.set x6 x7.toNat (1:Int)) (W .i64 (x7+1))) (none)) ((dQ N x0 x6).bind fun r5=>some (r5.1,r5.2))
def n8.l5(N:Nat):Nat→n8.bf
 |0,_,_,_,_=>none
 |n+1,x0,x1,x6,x7=>n8.c7 N (n8.l5 N n) x0 x1 x6 x7
def n8.b(N:Nat)(dw:n8.bf)(a0:Int)(a1:Int):Option ((List (Int))×(Int)):=
 cond (aG a0 0) (some ([],(1:Int))) (cond (aG a1 1) (some ([],(1:Int))) (cond (aG 64 a1) (some ([],(1:Int))) (cond (gg a1 a1) (dw a0 a1 (List.replicate a1.toNat (0:Int)) (0:Int)) (none))))
def n8(N:Nat)(a0:Int)(a1:Int):Option ((List (Int))×(Int)):=n8.b N (n8.l5 N N) a0 a1
abbrev da.ajo:=Int→aa→av→ba→Int→av→Int→Int→gB→av→Int→(List (Int))→Option (ba×(Int))
abbrev da.TD:=Int→aa→av→ba→Int→av→Int→Int→gB→av→Int→Int→Option (ba×(Int))
abbrev da.oB:=Int→aa→av→ba→Int→av→Int→Int→gB→av→Int→Option (ba×(Int))
abbrev da.qn:=Int→aa→av→ba→Int→av→Int→Int→Option (ba×(Int))
abbrev da.ew:=Int→aa→av→ba→Int→av→ax→Int→Option (ba×(Int))
abbrev da.fV:=Int→aa→av→ba→Int→Option (ba×(Int))
def da.adC(N:Nat)(dW:da.fV)(jG:da.qn)(oC:da.oB)(x2:Int)(x3:aa)(x8:av)(x9:ba)(aQ:Int)(aK:av)(bu:Int)(cc:Int)(db:gB)(ru:av)(cV:Int)(fE:List (Int)):Option (ba×(Int)):=
 cond (aI cc (List.length fE)) (cond (!aA (List.getD fE cc.toNat (0:Int)) (0:Int)) (cond (aI cV (List.length aK)) (cond (aI cc (List.length fE)) (cond (small (List.length ru+List.length ([((List.getD aK cV.toNat bL).1,(List.getD fE cc.toNat (0:Int),()))]))) (oC x2 x3 x8 x9 aQ aK bu cc (db.1,(bE,db.2.2)) (ru++([((List.getD aK cV.toNat bL).1,(List.getD fE cc.toNat (0:Int),()))])) (W .i64 (cV+1))) (none)) (none)) (none)) (oC x2 x3 x8 x9 aQ aK bu cc db ru (W .i64 (cV+1)))) (none)
def da.j32(N:Nat)(dW:da.fV)(jG:da.qn)(oC:da.oB)(x2:Int)(x3:aa)(x8:av)(x9:ba)(aQ:Int)(aK:av)(bu:Int)(cc:Int)(db:gB)(ru:av)(cV:Int)(fE:List (Int)):Option (ba×(Int)):=da.adC N dW jG oC x2 x3 x8 x9 aQ aK bu cc db ru cV fE
def da.Mj(N:Nat)(abC:da.ajo)(dW:da.fV)(jG:da.qn)(oC:da.oB)(x2:Int)(x3:aa)(x8:av)(x9:ba)(aQ:Int)(aK:av)(bu:Int)(cc:Int)(db:gB)(ru:av)(cV:Int)(fu:Int):Option (ba×(Int)):=
 (n8 N fu bu).bind fun ri=>cond (aI cV (List.length aK)) (cond (aG (((List.getD aK cV.toNat bL).2).1) (0:Int)) (cond (aI cc (List.length ri.1)) (cond (aI cc (List.length ri.1)) (abC x2 x3 x8 x9 aQ aK bu cc db ru cV (List.set ri.1 cc.toNat (W .i64 (0-(List.getD ri.1 cc.toNat (0:Int)))))) (none)) (none)) (abC x2 x3 x8 x9 aQ aK bu cc db ru cV ri.1)) (none)
def da.S7(N:Nat)(dW:da.fV)(jG:da.qn)(oC:da.oB)(x2:Int)(x3:aa)(x8:av)(x9:ba)(aQ:Int)(aK:av)(bu:Int)(cc:Int)(db:gB)(ru:av)(cV:Int)(fu:Int):Option (ba×(Int)):=da.Mj N (da.j32 N dW jG oC) dW jG oC x2 x3 x8 x9 aQ aK bu cc db ru cV fu
def da.AQ(N:Nat)(Jd:da.TD)(dW:da.fV)(jG:da.qn)(oC:da.oB)(x2:Int)(x3:aa)(x8:av)(x9:ba)(aQ:Int)(aK:av)(bu:Int)(cc:Int)(db:gB)(ru:av)(cV:Int):Option (ba×(Int)):=
 cond (aG cV (List.length aK:Int)) (cond (aI cV (List.length aK)) (cond (aG (((List.getD aK cV.toNat bL).2).1) (0:Int)) (Jd x2 x3 x8 x9 aQ aK bu cc db ru cV (W .i64 (0-(((List.getD aK cV.toNat bL).2).1)))) (Jd x2 x3 x8 x9 aQ aK bu cc db ru cV (((List.getD aK cV.toNat bL).2).1))) (none)) (cond (aA (List.length ru:Int) 0) (jG x2 x3 x8 x9 aQ aK bu (W .i64 (cc+1))) ((S8 N x3 ru).bind fun Gy=>(Qn N Gy.1).bind fun EB=>(sx N EB).bind fun yN=>cond (!yN.2) (some ([],(2:Int))) (cond (small (List.length x9+List.length ([(db.1,(ru,(yN.1,db.2.2.2)))]))) (jG (W .i64 (x2+1)) x3 x8 (x9++([(db.1,(ru,(yN.1,db.2.2.2)))])) aQ aK bu (W .i64 (cc+1))) (none))))
def da.zF(N:Nat)(dW:da.fV)(jG:da.qn):Nat→da.oB
 |0,_,_,_,_,_,_,_,_,_,_,_=>none
 |n+1,x2,x3,x8,x9,aQ,aK,bu,cc,db,ru,cV=>da.AQ N (da.S7 N dW jG (da.zF N dW jG n)) dW jG (da.zF N dW jG n) x2 x3 x8 x9 aQ aK bu cc db ru cV
def da.Mi(N:Nat)(I3:da.oB)(dW:da.fV)(jG:da.qn)(x2:Int)(x3:aa)(x8:av)(x9:ba)(aQ:Int)(aK:av)(bu:Int)(cc:Int):Option (ba×(Int)):=
 cond (aG cc bu) (I3 x2 x3 x8 x9 aQ aK bu cc (x2,(bE,((0:Int),((1:Int),bL)))) bE (0:Int)) (dW x2 x3 x8 x9 (W .i64 (aQ+1)))
def da.F6(N:Nat)(dW:da.fV):Nat→da.qn
 |0,_,_,_,_,_,_,_,_=>none
 |n+1,x2,x3,x8,x9,aQ,aK,bu,cc=>da.Mi N (da.zF N dW (da.F6 N dW n) N) dW (da.F6 N dW n) x2 x3 x8 x9 aQ aK bu cc
def da.kt(N:Nat)(TE:da.qn)(dW:da.fV)(fF:da.ew)(x2:Int)(x3:aa)(x8:av)(x9:ba)(aQ:Int)(aK:av)(aP:ax)(bn:Int):Option (ba×(Int)):=
 cond (aG bn (List.length x8:Int)) (cond (aI bn (List.length x8)) (cond (aI ((List.getD x8 bn.toNat bL).1) (List.length x3.1)) (cond (aA ((List.getD x3.1 ((List.getD x8 bn.toNat bL).1).toNat aJ).1) aQ) (cond (aI bn (List.length x8)) (cond (small (List.length aK+List.length ([List.getD x8 bn.toNat bL]))) (cond (aI bn (List.length x8)) ((fQ N (((List.getD x8 bn.toNat bL).2).1)).bind fun r6=>(OQ N r6).bind fun r7=>(uc N aP r7).bind fun r8=>fF x2 x3 x8 x9 aQ (aK++([List.getD x8 bn.toNat bL])) r8 (W .i64 (bn+1))) (none)) (none)) (none)) (fF x2 x3 x8 x9 aQ aK aP (W .i64 (bn+1)))) (none)) (none)) ((om N aP x3.2.2.2.2.2.1).bind fun jV=>TE x2 x3 x8 x9 aQ aK jV (0:Int))
def da.mi(N:Nat)(dW:da.fV):Nat→da.ew
 |0,_,_,_,_,_,_,_,_=>none
 |n+1,x2,x3,x8,x9,aQ,aK,aP,bn=>da.kt N (da.F6 N dW N) dW (da.mi N dW n) x2 x3 x8 x9 aQ aK aP bn
def da.zL(N:Nat)(qk:da.ew)(dW:da.fV)(x2:Int)(x3:aa)(x8:av)(x9:ba)(aQ:Int):Option (ba×(Int)):=
 cond (aG aQ 4) (qk x2 x3 x8 x9 aQ ([]) (false,kV) (0:Int)) (some (x9,(0:Int)))
def da.l8(N:Nat):Nat→da.fV
 |0,_,_,_,_,_=>none
 |n+1,x2,x3,x8,x9,aQ=>da.zL N (da.mi N (da.l8 N n) N) (da.l8 N n) x2 x3 x8 x9 aQ
def da.b(N:Nat)(Cc:da.fV)(a0:aa)(a1:ag)(a2:Int):Option (ba×(Int)):=
 (bS N a0 a1).bind fun r1=>cond (!r1) (some ([],(1:Int))) (cond (aG a2 1) (some ([],(1:Int))) (cond (aG 1099511627764 a2) (some ([],(1:Int))) ((ug N a1.2.2.2.1 (0:Int)).bind fun r2=>cond (aA (List.length r2:Int) 0) (some ([],(3:Int))) (Cc a2 a0 r2 ([]) (0:Int)))))
def da(N:Nat)(a0:aa)(a1:ag)(a2:Int):Option (ba×(Int)):=da.b N (da.l8 N N) a0 a1 a2
abbrev oq.bf:=ag→(List (Int))→Int→Option ((List (Int))×(Int))
def oq.c7(N:Nat)(bh:oq.bf)(x3:ag)(x6:List (Int))(x7:Int):Option ((List (Int))×(Int)):=
 cond (aG x7 (List.length x3.1:Int)) (cond (aI x7 (List.length x3.1)) (cond (aA (((List.getD x3.1 x7.toNat bL).2).1) (1:Int)) (cond (aI x7 (List.length x3.1)) ((qZ N x3.2.2.1 (6:Int) ((List.getD x3.1 x7.toNat bL).1)).bind fun r3=>cond (aG 0 r3) (cond (aI x7 (List.length x3.1)) (cond (small (List.length x6+List.length ([(List.getD x3.1 x7.toNat bL).1]))) (bh x3 (x6++([(List.getD x3.1 x7.toNat bL).1])) (W .i64 (x7+1))) (none)) (none)) (bh x3 x6 (W .i64 (x7+1)))) (none)) (bh x3 x6 (W .i64 (x7+1)))) (none)) (some (x6,(0:Int)))
def oq.l5(N:Nat):Nat→oq.bf
 |0,_,_,_=>none
 |n+1,x3,x6,x7=>oq.c7 N (oq.l5 N n) x3 x6 x7
def oq.b(N:Nat)(dw:oq.bf)(a0:aa)(a1:ag):Option ((List (Int))×(Int)):=
 (bS N a0 a1).bind fun r1=>cond (!r1) (some ([],(1:Int))) (dw a1 ([]) (0:Int))
def oq(N:Nat)(a0:aa)(a1:ag):Option ((List (Int))×(Int)):=oq.b N (oq.l5 N N) a0 a1
abbrev fG.Mu:=ba→aa→Int→gB→Option (Bool)
abbrev fG.aY:=ba→aa→Int→Option (Bool)
def fG.La(N:Nat)(bA:fG.aY)(x1:ba)(x2:aa)(x5:Int)(x6:gB):Option (Bool):=
 cond (aA x6.2.2.2.1 1) (cond (!aA x6.2.2.2.2.1 0) (some false) (cond (!aA x6.2.2.2.2.2.1 0) (some false) (bA x1 x2 (W .i64 (x5+1))))) (cond (aA x6.2.2.2.1 3) (cond (!aA x6.2.2.2.2.1 0) (some false) (cond (!aA x6.2.2.2.2.2.1 0) (some false) (bA x1 x2 (W .i64 (x5+1))))) (cond (aA x6.2.2.2.1 2) (cond (aG x6.2.2.2.2.1 1) (some false) (cond (aG 12 x6.2.2.2.2.1) (some false) (cond (aG x6.2.2.2.2.2.1 (-1152921504606846976)) (some false) (cond (aG 1152921504606846976 x6.2.2.2.2.2.1) (some false) (bA x1 x2 (W .i64 (x5+1))))))) (some false)))
def fG.j9(N:Nat)(bA:fG.aY)(x1:ba)(x2:aa)(x5:Int)(x6:gB):Option (Bool):=fG.La N bA x1 x2 x5 x6
def fG.cD(N:Nat)(Cb:fG.Mu)(bA:fG.aY)(x1:ba)(x2:aa)(x5:Int):Option (Bool):=
 cond (aG x5 (List.length x1:Int)) (cond (aI x5 (List.length x1)) (cond (aG ((List.getD x1 x5.toNat ((0:Int),(bE,aJ))).1) (1:Int)) (some false) (cond (aG 1099511627776 ((List.getD x1 x5.toNat ((0:Int),(bE,aJ))).1)) (some false) (cond (aG 0 x5) (let v3:Int:=W .i64 (x5-1);cond (aI v3 (List.length x1)) (cond (bX ((List.getD x1 x5.toNat ((0:Int),(bE,aJ))).1) ((List.getD x1 v3.toNat ((0:Int),(bE,aJ))).1)) (some false) (cond (aA (List.length (((List.getD x1 x5.toNat ((0:Int),(bE,aJ))).2).1):Int) (0:Int)) (some false) ((kp N x2 (((List.getD x1 x5.toNat ((0:Int),(bE,aJ))).2).1)).bind fun r4=>cond (!r4) (some false) (cond (aG 0 ((((List.getD x1 x5.toNat ((0:Int),(bE,aJ))).2).2).1)) (some false) (Cb x1 x2 x5 (List.getD x1 x5.toNat ((0:Int),(bE,aJ)))))))) (none)) (cond (aA (List.length (((List.getD x1 x5.toNat ((0:Int),(bE,aJ))).2).1):Int) (0:Int)) (some false) ((kp N x2 (((List.getD x1 x5.toNat ((0:Int),(bE,aJ))).2).1)).bind fun r9=>cond (!r9) (some false) (cond (aG 0 ((((List.getD x1 x5.toNat ((0:Int),(bE,aJ))).2).2).1)) (some false) (Cb x1 x2 x5 (List.getD x1 x5.toNat ((0:Int),(bE,aJ)))))))))) (none)) (some true)
def fG.l4(N:Nat):Nat→fG.aY
 |0,_,_,_=>none
 |n+1,x1,x2,x5=>fG.cD N (fG.j9 N (fG.l4 N n)) (fG.l4 N n) x1 x2 x5
def fG.b(N:Nat)(c6:fG.aY)(a0:aa)(a1:ba):Option (Bool):=
 (jd N a0).bind fun r1=>cond (!r1) (some false) (cond (aG 12 (List.length a1:Int)) (some false) (c6 a1 a0 (0:Int)))
def fG(N:Nat)(a0:aa)(a1:ba):Option (Bool):=fG.b N (fG.l4 N N) a0 a1
abbrev nu.bT:=ba→Int→gB→Int→Option (gB×(Bool))
def nu.dA(N:Nat)(cS:nu.bT)(x0:ba)(x1:Int)(x4:gB)(x6:Int):Option (gB×(Bool)):=
 cond (aG x6 (List.length x0:Int)) (cond (aI x6 (List.length x0)) (cond (aA ((List.getD x0 x6.toNat ((0:Int),(bE,aJ))).1) x1) (cond (aI x6 (List.length x0)) (some (List.getD x0 x6.toNat ((0:Int),(bE,aJ)),true)) (none)) (cS x0 x1 x4 (W .i64 (x6+1)))) (none)) (some (((0:Int),(bE,aJ)),false))
def nu.l2(N:Nat):Nat→nu.bT
 |0,_,_,_,_=>none
 |n+1,x0,x1,x4,x6=>nu.dA N (nu.l2 N n) x0 x1 x4 x6
def nu.b(N:Nat)(eI:nu.bT)(a0:ba)(a1:Int):Option (gB×(Bool)):=
 eI a0 a1 ((0:Int),(bE,aJ)) (0:Int)
def nu(N:Nat)(a0:ba)(a1:Int):Option (gB×(Bool)):=nu.b N (nu.l2 N N) a0 a1
abbrev dt.e7:=av→av→av→Int→ax→Int→Option (av×(Bool))
abbrev dt.dq:=av→av→av→Int→ax→Int→Option (av×(Bool))
abbrev dt.c0:=av→av→av→Int→Option (av×(Bool))
def dt.jh(N:Nat)(cG:dt.c0)(gV:dt.e7)(x0:av)(x1:av)(x6:av)(x7:Int)(x8:ax)(aQ:Int):Option (av×(Bool)):=
 cond (aG aQ (List.length x1:Int)) (cond (aI aQ (List.length x1)) (cond (aA ((List.getD x1 aQ.toNat bL).1) x7) (cond (aI aQ (List.length x1)) ((fQ N (((List.getD x1 aQ.toNat bL).2).1)).bind fun r8=>(uc N x8 r8).bind fun r9=>gV x0 x1 x6 x7 r9 (W .i64 (aQ+1))) (none)) (gV x0 x1 x6 x7 x8 (W .i64 (aQ+1)))) (none)) ((Lr N x8).bind fun iX=>cond (!iX.2) (some ([],false)) (cond (!aA iX.1 0) (cond (small (List.length x6+List.length ([(x7,(iX.1,()))]))) (cG x0 x1 (x6++([(x7,(iX.1,()))])) (W .i64 (x7+1))) (none)) (cG x0 x1 x6 (W .i64 (x7+1)))))
def dt.kk(N:Nat)(cG:dt.c0):Nat→dt.e7
 |0,_,_,_,_,_,_=>none
 |n+1,x0,x1,x6,x7,x8,aQ=>dt.jh N cG (dt.kk N cG n) x0 x1 x6 x7 x8 aQ
def dt.mE(N:Nat)(qm:dt.e7)(cG:dt.c0)(df:dt.dq)(x0:av)(x1:av)(x6:av)(x7:Int)(x8:ax)(x9:Int):Option (av×(Bool)):=
 cond (aG x9 (List.length x0:Int)) (cond (aI x9 (List.length x0)) (cond (aA ((List.getD x0 x9.toNat bL).1) x7) (cond (aI x9 (List.length x0)) ((fQ N (((List.getD x0 x9.toNat bL).2).1)).bind fun r3=>(uc N x8 r3).bind fun r4=>df x0 x1 x6 x7 r4 (W .i64 (x9+1))) (none)) (df x0 x1 x6 x7 x8 (W .i64 (x9+1)))) (none)) (qm x0 x1 x6 x7 x8 (0:Int))
def dt.l7(N:Nat)(cG:dt.c0):Nat→dt.dq
 |0,_,_,_,_,_,_=>none
 |n+1,x0,x1,x6,x7,x8,x9=>dt.mE N (dt.kk N cG N) cG (dt.l7 N cG n) x0 x1 x6 x7 x8 x9
def dt.jU(N:Nat)(pJ:dt.dq)(cG:dt.c0)(x0:av)(x1:av)(x6:av)(x7:Int):Option (av×(Bool)):=
 cond (aG x7 6) (pJ x0 x1 x6 x7 (false,kV) (0:Int)) (some (x6,true))
def dt.l3(N:Nat):Nat→dt.c0
 |0,_,_,_,_=>none
 |n+1,x0,x1,x6,x7=>dt.jU N (dt.l7 N (dt.l3 N n) N) (dt.l3 N n) x0 x1 x6 x7
def dt.b(N:Nat)(lC:dt.c0)(a0:av)(a1:av):Option (av×(Bool)):=
 lC a0 a1 ([]) (0:Int)
def dt(N:Nat)(a0:av)(a1:av):Option (av×(Bool)):=dt.b N (dt.l3 N N) a0 a1
def adB(N:Nat)(a0:aU)(a1:Int):Option aj:=
 (jL N a0).bind fun r1=>cond (!r1) (some ([])) ((dp N a0 a1).bind fun r2=>some r2)
abbrev im.ew:=aD→aa→ag→bp→gB→Int→Int→Option (Int)
abbrev im.aoR:=ba→aD→aa→ag→bp→Option (Int)
def im.kt(N:Nat)(fF:im.ew)(x3:aD)(x5:aa)(x6:ag)(x9:bp)(aP:gB)(bu:Int)(cc:Int):Option (Int):=
 cond (aG cc (List.length x3:Int)) (cond (aI cc (List.length x3)) (cond (aA ((((List.getD x3 cc.toNat aJ).2).2).1) x9.2.2.1) (cond (aI cc (List.length x3)) (cond (aA (((List.getD x3 cc.toNat aJ).2).1) x9.2.1) (some (4:Int)) (fF x3 x5 x6 x9 aP bu (W .i64 (cc+1)))) (none)) (fF x3 x5 x6 x9 aP bu (W .i64 (cc+1)))) (none)) (cond (aA (List.length x3:Int) 40) (some (5:Int)) ((fQ N x9.2.2.2.1).bind fun jE=>(fQ N (4:Int)).bind fun mF=>(fQ N aP.2.2.1).bind fun ob=>(gf N mF ob).bind fun ri=>(DB N jE ri).bind fun rO=>cond (aG rO 0) (some (11:Int)) ((ug N x6.2.2.2.1 bu).bind fun uk=>(dt N uk aP.2.1).bind fun Jc=>cond (!Jc.2) (some (2:Int)) ((adB N x6.2.2.2.2.2.1 bu).bind fun Cu=>(jm N x5 Jc.1 Cu).bind fun KG=>(Mg N x6 bu).bind fun KJ=>(fQ N KJ).bind fun B4=>(fQ N x9.2.2.2.1).bind fun Gy=>(KC N B4 Gy).bind fun EB=>(DB N EB KG.1).bind fun yN=>cond (aG yN 0) (some (10:Int)) (some (0:Int))))))
def im.mi(N:Nat):Nat→im.ew
 |0,_,_,_,_,_,_,_=>none
 |n+1,x3,x5,x6,x9,aP,bu,cc=>im.kt N (im.mi N n) x3 x5 x6 x9 aP bu cc
def im.j3b(N:Nat)(qk:im.ew)(x2:ba)(x3:aD)(x5:aa)(x6:ag)(x9:bp):Option (Int):=
 (F5 N x6 x9.2.2.1).bind fun r7=>cond (aA r7 0) (some (3:Int)) (cond (!aA r7 1) (some (7:Int)) ((nu N x2 x9.2.1).bind fun r8=>(uI N x6.2.1 x9.2.2.1).bind fun r9=>cond (!r8.2) (some (3:Int)) (cond (!aA r8.1.2.2.2.1 1) (some (3:Int)) (cond (aA r9 0) (some (3:Int)) (qk x3 x5 x6 x9 r8.1 r9 (0:Int))))))
def im.j3(N:Nat)(x2:ba)(x3:aD)(x5:aa)(x6:ag)(x9:bp):Option (Int):=im.j3b N (im.mi N N) x2 x3 x5 x6 x9
def im.b(N:Nat)(ajp:im.aoR)(a0:aa)(a1:ag)(a2:ba)(a3:aD)(a4:bp):Option (Int):=
 (bS N a0 a1).bind fun r1=>cond (!r1) (some (1:Int)) ((fG N a0 a2).bind fun r2=>cond (!r2) (some (1:Int)) ((dh N a3).bind fun r3=>cond (!r3) (some (1:Int)) ((RK N a4).bind fun r4=>cond (!r4) (some (1:Int)) (cond (aG 0 (List.length a3:Int)) (let v5:Int:=W .i64 ((List.length a3:Int)-1);cond (aI v5 (List.length a3)) (cond (bX a4.1 ((List.getD a3 v5.toNat aJ).1)) (some (1:Int)) (ajp a2 a3 a0 a1 a4)) (none)) (ajp a2 a3 a0 a1 a4)))))
def im(N:Nat)(a0:aa)(a1:ag)(a2:ba)(a3:aD)(a4:bp):Option (Int):=im.b N (im.j3 N) a0 a1 a2 a3 a4
def Wq(N:Nat)(a0:aa)(a1:ag)(a2:ba)(a3:aD)(a4:bp):Option (aD×(Int)):=
 (im N a0 a1 a2 a3 a4).bind fun r1=>cond (!aA r1 0) (some ([],r1)) (cond (small (List.length cg+List.length a3)) (let v2:List ((Int)×((Int)×((Int)×((Int)×(Unit))))):=cg++a3;cond (small (List.length v2+List.length ([a4]))) (some ((v2++([a4])),(0:Int))) (none)) (none))
abbrev B0.fe:=aD→Int→bp→bp→Bool→Int→Option (bp×(Bool))
def B0.pE(N:Nat)(ff:B0.fe)(x0:aD)(x1:Int)(x4:bp)(x6:bp)(x7:Bool)(x8:Int):Option (bp×(Bool)):=
 cond (aG x8 (List.length x0:Int)) (cond (aI x8 (List.length x0)) (cond (aA (((List.getD x0 x8.toNat aJ).2).1) x1) (cond (!x7) (cond (aI x8 (List.length x0)) (ff x0 x1 x4 (List.getD x0 x8.toNat aJ) true (W .i64 (x8+1))) (none)) (cond (aI x8 (List.length x0)) (cond (aG x6.2.2.2.1 (((((List.getD x0 x8.toNat aJ).2).2).2).1)) (cond (aI x8 (List.length x0)) (ff x0 x1 x4 (List.getD x0 x8.toNat aJ) true (W .i64 (x8+1))) (none)) (ff x0 x1 x4 x6 x7 (W .i64 (x8+1)))) (none))) (ff x0 x1 x4 x6 x7 (W .i64 (x8+1)))) (none)) (some (x6,x7))
def B0.l6(N:Nat):Nat→B0.fe
 |0,_,_,_,_,_,_=>none
 |n+1,x0,x1,x4,x6,x7,x8=>B0.pE N (B0.l6 N n) x0 x1 x4 x6 x7 x8
def B0.b(N:Nat)(rr:B0.fe)(a0:aD)(a1:Int):Option (bp×(Bool)):=
 (dh N a0).bind fun r1=>cond (!r1) (some (aJ,false)) (rr a0 a1 aJ aJ false (0:Int))
def B0(N:Nat)(a0:aD)(a1:Int):Option (bp×(Bool)):=B0.b N (B0.l6 N N) a0 a1
abbrev pI.oA:=ba→aD→ag→ag→aj→bx→ba→Int→gB→bp→Int→Int→Option (ag×ba×(Int))
abbrev pI.dq:=ba→aD→ag→ag→aj→bx→ba→Int→Option (ag×ba×(Int))
def pI.sD(N:Nat)(df:pI.dq)(B3:pI.oA)(x2:ba)(x3:aD)(x5:ag)(x8:ag)(aK:aj)(aP:bx)(bn:ba)(bu:Int)(cc:gB)(db:bp)(fu:Int)(fE:Int):Option (ag×ba×(Int)):=
 cond (aG fE (List.length cc.2.1:Int)) (cond (aI fE (List.length cc.2.1)) (cond (aI fE (List.length cc.2.1)) (let v14:Int:=W .i64 (0-(((List.getD cc.2.1 fE.toNat bL).2).1));cond (aI fE (List.length cc.2.1)) (cond (aI fE (List.length cc.2.1)) (cond (small (List.length aK+List.length ([((0:Int),((List.getD cc.2.1 fE.toNat bL).1,(v14,()))),(fu,((List.getD cc.2.1 fE.toNat bL).1,(((List.getD cc.2.1 fE.toNat bL).2).1,())))]))) (B3 x2 x3 x5 x8 (aK++([((0:Int),((List.getD cc.2.1 fE.toNat bL).1,(v14,()))),(fu,((List.getD cc.2.1 fE.toNat bL).1,(((List.getD cc.2.1 fE.toNat bL).2).1,())))])) aP bn bu cc db fu (W .i64 (fE+1))) (none)) (none)) (none)) (none)) (none)) ((fQ N db.2.2.2.1).bind fun rO=>(BW N (5:Int) fu (2:Int) (0:Int) rO).bind fun uk=>cond (small (List.length aP+List.length uk)) (cond (small (List.length bn+List.length ([cc]))) (df x2 x3 x5 x8 aK (aP++uk) (bn++([cc])) (W .i64 (bu+1))) (none)) (none))
def pI.tL(N:Nat)(df:pI.dq):Nat→pI.oA
 |0,_,_,_,_,_,_,_,_,_,_,_,_=>none
 |n+1,x2,x3,x5,x8,aK,aP,bn,bu,cc,db,fu,fE=>pI.sD N df (pI.tL N df n) x2 x3 x5 x8 aK aP bn bu cc db fu fE
def pI.mE(N:Nat)(B5:pI.oA)(df:pI.dq)(x2:ba)(x3:aD)(x5:ag)(x8:ag)(aK:aj)(aP:bx)(bn:ba)(bu:Int):Option (ag×ba×(Int)):=
 cond (aG bu (List.length x2:Int)) (cond (aI bu (List.length x2)) (cond (small (List.length bE+List.length (((List.getD x2 bu.toNat ((0:Int),(bE,aJ))).2).1))) (let v5:List ((Int)×((Int)×(Unit))):=bE++(((List.getD x2 bu.toNat ((0:Int),(bE,aJ))).2).1);cond (!aA (((((List.getD x2 bu.toNat ((0:Int),(bE,aJ))).2).2).2).1) (1:Int)) (cond (small (List.length bn+List.length ([((List.getD x2 bu.toNat ((0:Int),(bE,aJ))).1,(v5,((List.getD x2 bu.toNat ((0:Int),(bE,aJ))).2).2))]))) (df x2 x3 x5 x8 aK aP (bn++([((List.getD x2 bu.toNat ((0:Int),(bE,aJ))).1,(v5,((List.getD x2 bu.toNat ((0:Int),(bE,aJ))).2).2))])) (W .i64 (bu+1))) (none)) ((B0 N x3 ((List.getD x2 bu.toNat ((0:Int),(bE,aJ))).1)).bind fun r8=>cond (!r8.2) (cond (small (List.length bn+List.length ([((List.getD x2 bu.toNat ((0:Int),(bE,aJ))).1,(v5,((((List.getD x2 bu.toNat ((0:Int),(bE,aJ))).2).2).1,((3:Int),((((List.getD x2 bu.toNat ((0:Int),(bE,aJ))).2).2).2).2))))]))) (df x2 x3 x5 x8 aK aP (bn++([((List.getD x2 bu.toNat ((0:Int),(bE,aJ))).1,(v5,((((List.getD x2 bu.toNat ((0:Int),(bE,aJ))).2).2).1,((3:Int),((((List.getD x2 bu.toNat ((0:Int),(bE,aJ))).2).2).2).2))))])) (W .i64 (bu+1))) (none)) ((uI N x5.2.1 r8.1.2.2.1).bind fun jV=>cond (aA jV 0) (some ((bE,(cg,(aX,(aX,(cC,(cK,())))))),[],(3:Int))) ((F5 N x5 r8.1.2.2.1).bind fun iX=>cond (aA iX 0) (some ((bE,(cg,(aX,(aX,(cC,(cK,())))))),[],(3:Int))) (B5 x2 x3 x5 x8 aK aP bn bu ((List.getD x2 bu.toNat ((0:Int),(bE,aJ))).1,(v5,((((List.getD x2 bu.toNat ((0:Int),(bE,aJ))).2).2).1,((2:Int),(r8.1.2.2.1,(r8.1.2.2.2.1,((((((List.getD x2 bu.toNat ((0:Int),(bE,aJ))).2).2).2).2).2).2)))))) r8.1 jV (0:Int)))))) (none)) (none)) ((xl N x5 aK aP).bind fun KJ=>cond (!aA KJ.2 0) (some ((bE,(cg,(aX,(aX,(cC,(cK,())))))),[],KJ.2)) (some (KJ.1,bn,(0:Int))))
def pI.l7(N:Nat):Nat→pI.dq
 |0,_,_,_,_,_,_,_,_=>none
 |n+1,x2,x3,x5,x8,aK,aP,bn,bu=>pI.mE N (pI.tL N (pI.l7 N n) N) (pI.l7 N n) x2 x3 x5 x8 aK aP bn bu
def pI.b(N:Nat)(pJ:pI.dq)(a0:aa)(a1:ag)(a2:ba)(a3:aD):Option (ag×ba×(Int)):=
 (bS N a0 a1).bind fun r1=>cond (!r1) (some ((bE,(cg,(aX,(aX,(cC,(cK,())))))),[],(1:Int))) ((fG N a0 a2).bind fun r2=>cond (!r2) (some ((bE,(cg,(aX,(aX,(cC,(cK,())))))),[],(1:Int))) ((dh N a3).bind fun r3=>cond (!r3) (some ((bE,(cg,(aX,(aX,(cC,(cK,())))))),[],(1:Int))) (pJ a2 a3 a1 (bE,(cg,(aX,(aX,(cC,(cK,())))))) ([]) ([]) ([]) (0:Int))))
def pI(N:Nat)(a0:aa)(a1:ag)(a2:ba)(a3:aD):Option (ag×ba×(Int)):=pI.b N (pI.l7 N N) a0 a1 a2 a3
abbrev mC.bT:=av→Int→Option (Bool)
def mC.dA(N:Nat)(cS:mC.bT)(x0:av)(x3:Int):Option (Bool):=
 cond (aG x3 (List.length x0:Int)) (cond (aI x3 (List.length x0)) (cond (aG ((List.getD x0 x3.toNat bL).1) (1:Int)) (some false) (cond (aI x3 (List.length x0)) (cond (aG 12 ((List.getD x0 x3.toNat bL).1)) (some false) (cond (aI x3 (List.length x0)) (cond (aG (((List.getD x0 x3.toNat bL).2).1) (1:Int)) (some false) (cond (aI x3 (List.length x0)) (cond (aG 4 (((List.getD x0 x3.toNat bL).2).1)) (some false) (cond (aG 0 x3) (cond (aI x3 (List.length x0)) (let v2:Int:=W .i64 (x3-1);cond (aI v2 (List.length x0)) (cond (bX ((List.getD x0 x3.toNat bL).1) ((List.getD x0 v2.toNat bL).1)) (some false) (cS x0 (W .i64 (x3+1)))) (none)) (none)) (cS x0 (W .i64 (x3+1))))) (none))) (none))) (none))) (none)) (some true)
def mC.l2(N:Nat):Nat→mC.bT
 |0,_,_=>none
 |n+1,x0,x3=>mC.dA N (mC.l2 N n) x0 x3
def mC.b(N:Nat)(eI:mC.bT)(a0:av):Option (Bool):=
 eI a0 (0:Int)
def mC(N:Nat)(a0:av):Option (Bool):=mC.b N (mC.l2 N N) a0
abbrev ot.bT:=(List (Int))→Int→Option (Bool)
def ot.dA(N:Nat)(cS:ot.bT)(x0:List (Int))(x3:Int):Option (Bool):=
 cond (aG x3 (List.length x0:Int)) (cond (aI x3 (List.length x0)) (cond (aG (List.getD x0 x3.toNat (0:Int)) (1:Int)) (some false) (cond (aI x3 (List.length x0)) (cond (aG 12 (List.getD x0 x3.toNat (0:Int))) (some false) (cond (aG 0 x3) (cond (aI x3 (List.length x0)) (let v2:Int:=W .i64 (x3-1);cond (aI v2 (List.length x0)) (cond (bX (List.getD x0 x3.toNat (0:Int)) (List.getD x0 v2.toNat (0:Int))) (some false) (cS x0 (W .i64 (x3+1)))) (none)) (none)) (cS x0 (W .i64 (x3+1))))) (none))) (none)) (some true)
def ot.l2(N:Nat):Nat→ot.bT
 |0,_,_=>none
 |n+1,x0,x3=>ot.dA N (ot.l2 N n) x0 x3
def ot.b(N:Nat)(eI:ot.bT)(a0:List (Int)):Option (Bool):=
 eI a0 (0:Int)
def ot(N:Nat)(a0:List (Int)):Option (Bool):=ot.b N (ot.l2 N N) a0
abbrev gb.e7:=Int→ba→Int→Int→Option (Int)
abbrev gb.c0:=Int→ba→aD→Int→Int→Option (Int)
def gb.jh(N:Nat)(gV:gb.e7)(x0:Int)(x1:ba)(x7:Int)(aP:Int):Option (Int):=
 cond (aG aP (List.length x1:Int)) (cond (aI aP (List.length x1)) (cond (aA (((((List.getD x1 aP.toNat ((0:Int),(bE,aJ))).2).2).2).1) (2:Int)) (cond (aI aP (List.length x1)) (cond (aA ((((((List.getD x1 aP.toNat ((0:Int),(bE,aJ))).2).2).2).2).1) x0) (gV x0 x1 (4:Int) (W .i64 (aP+1))) (gV x0 x1 x7 (W .i64 (aP+1)))) (none)) (gV x0 x1 x7 (W .i64 (aP+1)))) (none)) (some x7)
def gb.kk(N:Nat):Nat→gb.e7
 |0,_,_,_,_=>none
 |n+1,x0,x1,x7,aP=>gb.jh N (gb.kk N n) x0 x1 x7 aP
def gb.jU(N:Nat)(qm:gb.e7)(cG:gb.c0)(x0:Int)(x1:ba)(x2:aD)(x7:Int)(x8:Int):Option (Int):=
 cond (aG x8 (List.length x2:Int)) (cond (aI x8 (List.length x2)) (cond (!aA ((((List.getD x2 x8.toNat aJ).2).2).1) x0) (cG x0 x1 x2 x7 (W .i64 (x8+1))) (cond (aI x8 (List.length x2)) ((nu N x1 (((List.getD x2 x8.toNat aJ).2).1)).bind fun r3=>cond (r3.2) (cond (aI x8 (List.length x2)) (cond (bX r3.1.2.2.1 (((((List.getD x2 x8.toNat aJ).2).2).2).1)) (cG x0 x1 x2 (mx x7 3) (W .i64 (x8+1))) (cG x0 x1 x2 (mx x7 2) (W .i64 (x8+1)))) (none)) (cG x0 x1 x2 (mx x7 2) (W .i64 (x8+1)))) (none))) (none)) (qm x0 x1 x7 (0:Int))
def gb.l3(N:Nat):Nat→gb.c0
 |0,_,_,_,_,_=>none
 |n+1,x0,x1,x2,x7,x8=>gb.jU N (gb.kk N N) (gb.l3 N n) x0 x1 x2 x7 x8
def gb.b(N:Nat)(lC:gb.c0)(a0:Int)(a1:ba)(a2:aD):Option (Int):=
 lC a0 a1 a2 (1:Int) (0:Int)
def gb(N:Nat)(a0:Int)(a1:ba)(a2:aD):Option (Int):=gb.b N (gb.l3 N N) a0 a1 a2
abbrev cM.sT:=av→(List (Int))→ba→aD→av→Int→Int→Bool→Int→Option (av×(Int))
abbrev cM.sV:=av→(List (Int))→ba→aD→av→Int→Int→Bool→Int→Option (av×(Int))
abbrev cM.jq:=av→(List (Int))→ba→aD→av→Int→Int→Bool→Int→Option (av×(Int))
abbrev cM.bf:=av→(List (Int))→ba→aD→av→Int→Option (av×(Int))
def cM.BV(N:Nat)(bh:cM.bf)(Ce:cM.sT)(x1:av)(x2:List (Int))(x3:ba)(x4:aD)(aP:av)(bn:Int)(bu:Int)(cc:Bool)(fu:Int):Option (av×(Int)):=
 cond (aG fu (List.length x4:Int)) (cond (cc) (Ce x1 x2 x3 x4 aP bn bu true (W .i64 (fu+1))) (cond (aI fu (List.length x4)) (Ce x1 x2 x3 x4 aP bn bu (aA ((((List.getD x4 fu.toNat aJ).2).2).1) bn) (W .i64 (fu+1))) (none))) (cond (cc) ((gb N bn x3 x4).bind fun ob=>let TA:Int:=mx bu ob;cond (small (List.length aP+List.length ([(bn,(TA,()))]))) (bh x1 x2 x3 x4 (aP++([(bn,(TA,()))])) (W .i64 (bn+1))) (none)) (bh x1 x2 x3 x4 aP (W .i64 (bn+1))))
def cM.Eu(N:Nat)(bh:cM.bf):Nat→cM.sT
 |0,_,_,_,_,_,_,_,_,_=>none
 |n+1,x1,x2,x3,x4,aP,bn,bu,cc,fu=>cM.BV N bh (cM.Eu N bh n) x1 x2 x3 x4 aP bn bu cc fu
def cM.Bv(N:Nat)(I8:cM.sT)(bh:cM.bf)(yP:cM.sV)(x1:av)(x2:List (Int))(x3:ba)(x4:aD)(aP:av)(bn:Int)(bu:Int)(cc:Bool)(cV:Int):Option (av×(Int)):=
 cond (aG cV (List.length x2:Int)) (cond (cc) (yP x1 x2 x3 x4 aP bn bu true (W .i64 (cV+1))) (cond (aI cV (List.length x2)) (yP x1 x2 x3 x4 aP bn bu (aA (List.getD x2 cV.toNat (0:Int)) bn) (W .i64 (cV+1))) (none))) (I8 x1 x2 x3 x4 aP bn bu cc (0:Int))
def cM.D5(N:Nat)(bh:cM.bf):Nat→cM.sV
 |0,_,_,_,_,_,_,_,_,_=>none
 |n+1,x1,x2,x3,x4,aP,bn,bu,cc,cV=>cM.Bv N (cM.Eu N bh N) bh (cM.D5 N bh n) x1 x2 x3 x4 aP bn bu cc cV
def cM.tJ(N:Nat)(Jb:cM.sV)(bh:cM.bf)(mX:cM.jq)(x1:av)(x2:List (Int))(x3:ba)(x4:aD)(aP:av)(bn:Int)(bu:Int)(cc:Bool)(db:Int):Option (av×(Int)):=
 cond (aG db (List.length x1:Int)) (cond (aI db (List.length x1)) (cond (aA ((List.getD x1 db.toNat bL).1) bn) (cond (aI db (List.length x1)) (mX x1 x2 x3 x4 aP bn (((List.getD x1 db.toNat bL).2).1) true (W .i64 (db+1))) (none)) (mX x1 x2 x3 x4 aP bn bu cc (W .i64 (db+1)))) (none)) (Jb x1 x2 x3 x4 aP bn bu cc (0:Int))
def cM.l9(N:Nat)(bh:cM.bf):Nat→cM.jq
 |0,_,_,_,_,_,_,_,_,_=>none
 |n+1,x1,x2,x3,x4,aP,bn,bu,cc,db=>cM.tJ N (cM.D5 N bh N) bh (cM.l9 N bh n) x1 x2 x3 x4 aP bn bu cc db
def cM.c7(N:Nat)(u2:cM.jq)(bh:cM.bf)(x1:av)(x2:List (Int))(x3:ba)(x4:aD)(aP:av)(bn:Int):Option (av×(Int)):=
 cond (bX bn 12) (u2 x1 x2 x3 x4 aP bn (0:Int) false (0:Int)) (some (aP,(0:Int)))
def cM.l5(N:Nat):Nat→cM.bf
 |0,_,_,_,_,_,_=>none
 |n+1,x1,x2,x3,x4,aP,bn=>cM.c7 N (cM.l9 N (cM.l5 N n) N) (cM.l5 N n) x1 x2 x3 x4 aP bn
def cM.b(N:Nat)(dw:cM.bf)(a0:aa)(a1:av)(a2:List (Int))(a3:ba)(a4:aD):Option (av×(Int)):=
 (mC N a1).bind fun r1=>cond (!r1) (some ([],(1:Int))) ((ot N a2).bind fun r2=>cond (!r2) (some ([],(1:Int))) ((fG N a0 a3).bind fun r3=>cond (!r3) (some ([],(1:Int))) ((dh N a4).bind fun r4=>cond (!r4) (some ([],(1:Int))) (dw a1 a2 a3 a4 ([]) (1:Int)))))
def cM(N:Nat)(a0:aa)(a1:av)(a2:List (Int))(a3:ba)(a4:aD):Option (av×(Int)):=cM.b N (cM.l5 N N) a0 a1 a2 a3 a4
def Ml(N:Nat)(a0:aZ)(a1:ag)(a2:Int)(a3:Int)(a4:Int):Option aZ:=
 (qZ N a1.2.2.1 a3 a4).bind fun r1=>cond (aG 0 r1) (cond (small (List.length a0+List.length ([(a2,(a3,(a4,(r1,((0:Int),())))))]))) (some (a0++([(a2,(a3,(a4,(r1,((0:Int),())))))]))) (none)) (some a0)
def Tc(N:Nat)(a0:Int):Option (Bool):=
 cond (aA a0 1) (some true) (some (aA a0 2))
abbrev ou.aY:=av→Int→Int→Option (Int)
def ou.cD(N:Nat)(bA:ou.aY)(x0:av)(x1:Int)(x5:Int):Option (Int):=
 cond (aG x5 (List.length x0:Int)) (cond (aI x5 (List.length x0)) (cond (aA ((List.getD x0 x5.toNat bL).1) x1) (cond (aI x5 (List.length x0)) (some (((List.getD x0 x5.toNat bL).2).1)) (none)) (bA x0 x1 (W .i64 (x5+1)))) (none)) (some (1:Int))
def ou.l4(N:Nat):Nat→ou.aY
 |0,_,_,_=>none
 |n+1,x0,x1,x5=>ou.cD N (ou.l4 N n) x0 x1 x5
def ou.b(N:Nat)(c6:ou.aY)(a0:av)(a1:Int):Option (Int):=
 (mC N a0).bind fun r1=>cond (!r1) (some (0:Int)) (c6 a0 a1 (0:Int))
def ou(N:Nat)(a0:av)(a1:Int):Option (Int):=ou.b N (ou.l4 N N) a0 a1
abbrev ov.bf:=av→Int→Int→ag→(List (Int))→Int→Option ((List (Int))×(Int))
def ov.c7(N:Nat)(bh:ov.bf)(x2:av)(x3:Int)(x4:Int)(x6:ag)(aP:List (Int))(bn:Int):Option ((List (Int))×(Int)):=
 cond (aG bn (List.length x6.1:Int)) (cond (aI bn (List.length x6.1)) ((Tc N (((List.getD x6.1 bn.toNat bL).2).1)).bind fun r4=>cond (r4) (cond (!aA ((List.getD x6.1 bn.toNat bL).1) x3) ((qZ N x6.2.2.1 (6:Int) ((List.getD x6.1 bn.toNat bL).1)).bind fun r5=>cond (aG 0 r5) ((ou N x2 ((List.getD x6.1 bn.toNat bL).1)).bind fun r6=>cond (aA r6 x4) (cond (small (List.length aP+List.length ([(List.getD x6.1 bn.toNat bL).1]))) (bh x2 x3 x4 x6 (aP++([(List.getD x6.1 bn.toNat bL).1])) (W .i64 (bn+1))) (none)) (bh x2 x3 x4 x6 aP (W .i64 (bn+1)))) (bh x2 x3 x4 x6 aP (W .i64 (bn+1)))) (bh x2 x3 x4 x6 aP (W .i64 (bn+1)))) (bh x2 x3 x4 x6 aP (W .i64 (bn+1)))) (none)) (some (aP,(0:Int)))
def ov.l5(N:Nat):Nat→ov.bf
 |0,_,_,_,_,_,_=>none
 |n+1,x2,x3,x4,x6,aP,bn=>ov.c7 N (ov.l5 N n) x2 x3 x4 x6 aP bn
def ov.b(N:Nat)(dw:ov.bf)(a0:aa)(a1:ag)(a2:av)(a3:Int)(a4:Int):Option ((List (Int))×(Int)):=
 (bS N a0 a1).bind fun r1=>cond (!r1) (some ([],(1:Int))) ((mC N a2).bind fun r2=>cond (!r2) (some ([],(1:Int))) (dw a2 a3 a4 a1 ([]) (0:Int)))
def ov(N:Nat)(a0:aa)(a1:ag)(a2:av)(a3:Int)(a4:Int):Option ((List (Int))×(Int)):=ov.b N (ov.l5 N N) a0 a1 a2 a3 a4
abbrev cz.jA:=Int→av→av→aa→ag→aZ→Int→(List (Int))→Int→Option (aZ×(Int))
abbrev cz.B9:=Int→av→ag→aZ→Int→Option (aZ×(Int))
abbrev cz.qn:=Int→av→aa→ag→aZ→Int→Option (aZ×(Int))
abbrev cz.e7:=Int→av→av→aa→ag→aZ→Int→Option (aZ×(Int))
abbrev cz.Mu:=Int→av→av→aa→ag→aZ→Option (aZ×(Int))
def cz.sC(N:Nat)(gV:cz.e7)(kS:cz.jA)(x2:Int)(x3:av)(x4:av)(x5:aa)(x6:ag)(aP:aZ)(bu:Int)(cc:List (Int))(cV:Int):Option (aZ×(Int)):=
 cond (aG cV (List.length cc:Int)) (cond (aI cV (List.length cc)) ((Ml N aP x6 (W .i64 ((W .i64 ((4:Int)+bu))-1)) (6:Int) (List.getD cc cV.toNat (0:Int))).bind fun ob=>kS x2 x3 x4 x5 x6 ob bu cc (W .i64 (cV+1))) (none)) (gV x2 x3 x4 x5 x6 aP (W .i64 (bu+1)))
def cz.tK(N:Nat)(gV:cz.e7):Nat→cz.jA
 |0,_,_,_,_,_,_,_,_,_=>none
 |n+1,x2,x3,x4,x5,x6,aP,bu,cc,cV=>cz.sC N gV (cz.tK N gV n) x2 x3 x4 x5 x6 aP bu cc cV
def cz.H8(N:Nat)(yM:cz.B9)(x2:Int)(x4:av)(x6:ag)(aP:aZ)(Qb:Int):Option (aZ×(Int)):=
 cond (aG Qb (List.length x4:Int)) (cond (aI Qb (List.length x4)) ((A0 N x6.2.1 ((List.getD x4 Qb.toNat bL).1)).bind fun NW=>cond (aI Qb (List.length x4)) (cond (aI Qb (List.length x4)) ((qZ N x6.2.2.1 (5:Int) ((List.getD x4 Qb.toNat bL).1)).bind fun r32=>let v33:Int:=mn (((List.getD x4 Qb.toNat bL).2).1) r32;cond (NW.2) (cond (!aA NW.1.2.1 x2) (cond (aG 0 v33) (cond (small (List.length aP+List.length ([((9:Int),((5:Int),(NW.1.1,(v33,((0:Int),())))))]))) (yM x2 x4 x6 (aP++([((9:Int),((5:Int),(NW.1.1,(v33,((0:Int),())))))])) (W .i64 (Qb+1))) (none)) (yM x2 x4 x6 aP (W .i64 (Qb+1)))) (yM x2 x4 x6 aP (W .i64 (Qb+1)))) (yM x2 x4 x6 aP (W .i64 (Qb+1)))) (none)) (none)) (none)) (some (aP,(0:Int)))
def cz.Lt(N:Nat):Nat→cz.B9
 |0,_,_,_,_,_=>none
 |n+1,x2,x4,x6,aP,Qb=>cz.H8 N (cz.Lt N n) x2 x4 x6 aP Qb
def cz.Mi(N:Nat)(Tw:cz.B9)(jG:cz.qn)(x2:Int)(x4:av)(x5:aa)(x6:ag)(aP:aZ)(fu:Int):Option (aZ×(Int)):=
 cond (aG fu (List.length x6.1:Int)) (cond (aI fu (List.length x6.1)) ((Tc N (((List.getD x6.1 fu.toNat bL).2).1)).bind fun Jc=>cond (!Jc) (jG x2 x4 x5 x6 aP (W .i64 (fu+1))) (cond (aA ((List.getD x6.1 fu.toNat bL).1) x2) (jG x2 x4 x5 x6 aP (W .i64 (fu+1))) ((fQ N x5.2.2.1).bind fun KJ=>(qZ N x6.2.2.1 (6:Int) ((List.getD x6.1 fu.toNat bL).1)).bind fun B4=>(fQ N B4).bind fun Gy=>(gf N KJ Gy).bind fun EB=>(sx N EB).bind fun yN=>cond (!yN.2) (some ([],(2:Int))) (cond (aG 0 yN.1) (cond (small (List.length aP+List.length ([((8:Int),((7:Int),((List.getD x6.1 fu.toNat bL).1,(yN.1,((0:Int),())))))]))) (jG x2 x4 x5 x6 (aP++([((8:Int),((7:Int),((List.getD x6.1 fu.toNat bL).1,(yN.1,((0:Int),())))))])) (W .i64 (fu+1))) (none)) (jG x2 x4 x5 x6 aP (W .i64 (fu+1))))))) (none)) (Tw x2 x4 x6 aP (0:Int))
def cz.F6(N:Nat):Nat→cz.qn
 |0,_,_,_,_,_,_=>none
 |n+1,x2,x4,x5,x6,aP,fu=>cz.Mi N (cz.Lt N N) (cz.F6 N n) x2 x4 x5 x6 aP fu
def cz.jh(N:Nat)(B6:cz.jA)(TE:cz.qn)(gV:cz.e7)(x2:Int)(x3:av)(x4:av)(x5:aa)(x6:ag)(aP:aZ)(bu:Int):Option (aZ×(Int)):=
 cond (bX bu 4) ((ov N x5 x6 x3 x2 bu).bind fun jV=>B6 x2 x3 x4 x5 x6 aP bu jV.1 (0:Int)) (TE x2 x4 x5 x6 aP (0:Int))
def cz.kk(N:Nat):Nat→cz.e7
 |0,_,_,_,_,_,_,_=>none
 |n+1,x2,x3,x4,x5,x6,aP,bu=>cz.jh N (cz.tK N (cz.kk N n) N) (cz.F6 N N) (cz.kk N n) x2 x3 x4 x5 x6 aP bu
def cz.La(N:Nat)(qm:cz.e7)(x2:Int)(x3:av)(x4:av)(x5:aa)(x6:ag)(aP:aZ):Option (aZ×(Int)):=
 (Ml N aP x6 (2:Int) (6:Int) x2).bind fun r8=>(Ml N r8 x6 (3:Int) (3:Int) (0:Int)).bind fun r9=>qm x2 x3 x4 x5 x6 r9 (1:Int)
def cz.j9(N:Nat)(x2:Int)(x3:av)(x4:av)(x5:aa)(x6:ag)(aP:aZ):Option (aZ×(Int)):=cz.La N (cz.kk N N) x2 x3 x4 x5 x6 aP
def cz.b(N:Nat)(Cb:cz.Mu)(a0:aa)(a1:ag)(a2:Int)(a3:av)(a4:av):Option (aZ×(Int)):=
 (bS N a0 a1).bind fun r1=>cond (!r1) (some ([],(1:Int))) ((mC N a3).bind fun r2=>cond (!r2) (some ([],(1:Int))) ((ns N a4).bind fun r3=>cond (!r3) (some ([],(1:Int))) ((vS N a1.1 a2).bind fun r4=>cond (aA r4 0) (some ([],(3:Int))) ((uI N a1.2.1 a2).bind fun r5=>cond (!aA r5 0) ((Ml N ([]) a1 (1:Int) (5:Int) r5).bind fun r6=>Cb a2 a3 a4 a0 a1 r6) (Cb a2 a3 a4 a0 a1 ([]))))))
def cz(N:Nat)(a0:aa)(a1:ag)(a2:Int)(a3:av)(a4:av):Option (aZ×(Int)):=cz.b N (cz.j9 N) a0 a1 a2 a3 a4
def Ws(N:Nat)(a0:aa)(a1:ag):Option ((Int)×(Int)):=
 (bS N a0 a1).bind fun r1=>cond (!r1) (some ((0:Int),(1:Int))) ((qZ N a1.2.2.1 (2:Int) (0:Int)).bind fun r2=>cond (aA r2 (-9223372036854775808)) (some ((0:Int),(2:Int))) (some ((mx (W .i64 (0-r2)) (0:Int)),(0:Int))))
abbrev ow.aY:=aZ→Int→Option (Bool)
def ow.cD(N:Nat)(bA:ow.aY)(x0:aZ)(x3:Int):Option (Bool):=
 cond (aG x3 (List.length x0:Int)) (cond (aI x3 (List.length x0)) (cond (aG ((List.getD x0 x3.toNat dX).1) (1:Int)) (some false) (cond (aG 9 ((List.getD x0 x3.toNat dX).1)) (some false) ((Le N (((List.getD x0 x3.toNat dX).2).1) ((((List.getD x0 x3.toNat dX).2).2).1)).bind fun r2=>cond (!r2) (some false) (cond (aG (((((List.getD x0 x3.toNat dX).2).2).2).1) (1:Int)) (some false) (cond (aG ((((((List.getD x0 x3.toNat dX).2).2).2).2).1) (0:Int)) (some false) (cond (aG (((((List.getD x0 x3.toNat dX).2).2).2).1) ((((((List.getD x0 x3.toNat dX).2).2).2).2).1)) (some false) (cond (aG 0 x3) (let v3:Int:=W .i64 (x3-1);cond (aI v3 (List.length x0)) (cond (aG ((List.getD x0 x3.toNat dX).1) ((List.getD x0 v3.toNat dX).1)) (some false) (let v4:Int:=W .i64 (x3-1);cond (aI v4 (List.length x0)) (cond (aA ((List.getD x0 x3.toNat dX).1) ((List.getD x0 v4.toNat dX).1)) (let v5:Int:=W .i64 (x3-1);cond (aI v5 (List.length x0)) (cond (!aA (((List.getD x0 x3.toNat dX).2).1) (((List.getD x0 v5.toNat dX).2).1)) (some false) (let v6:Int:=W .i64 (x3-1);cond (aI v6 (List.length x0)) (cond (bX ((((List.getD x0 x3.toNat dX).2).2).1) ((((List.getD x0 v6.toNat dX).2).2).1)) (some false) (bA x0 (W .i64 (x3+1)))) (none))) (none)) (bA x0 (W .i64 (x3+1)))) (none))) (none)) (bA x0 (W .i64 (x3+1)))))))))) (none)) (some true)
def ow.l4(N:Nat):Nat→ow.aY
 |0,_,_=>none
 |n+1,x0,x3=>ow.cD N (ow.l4 N n) x0 x3
def ow.b(N:Nat)(c6:ow.aY)(a0:aZ):Option (Bool):=
 cond (aG 64 (List.length a0:Int)) (some false) (c6 a0 (0:Int))
def ow(N:Nat)(a0:aZ):Option (Bool):=ow.b N (ow.l4 N N) a0
abbrev cU.sT:=aZ→Int→Int→Int→(List (Int))→Int→Option (aZ×(Int)×(Int))
abbrev cU.I7:=aZ→Int→Int→Int→(List (Int))→Option (aZ×(Int)×(Int))
abbrev cU.fV:=aZ→Int→Int→Int→(List (Int))→Option (aZ×(Int)×(Int))
abbrev cU.bf:=aZ→Int→Int→Option (aZ×(Int)×(Int))
def cU.BV(N:Nat)(bh:cU.bf)(Ce:cU.sT)(x7:aZ)(x8:Int)(x9:Int)(aQ:Int)(bu:List (Int))(db:Int):Option (aZ×(Int)×(Int)):=
 cond (aG db aQ) (let v13:Int:=W .i64 (db-x9);cond (aI v13 (List.length bu)) (cond (aI db (List.length x7)) (let WK:Int:=W .i64 (db-x9);cond (aI WK (List.length bu)) (Ce (List.set x7 db.toNat ((List.getD x7 db.toNat dX).1,(((List.getD x7 db.toNat dX).2).1,((((List.getD x7 db.toNat dX).2).2).1,(((((List.getD x7 db.toNat dX).2).2).2).1,(List.getD bu v13.toNat (0:Int),(((((List.getD x7 db.toNat dX).2).2).2).2).2)))))) (W .i64 (x8-(List.getD bu WK.toNat (0:Int)))) x9 aQ bu (W .i64 (db+1))) (none)) (none)) (none)) (bh x7 x8 aQ)
def cU.Eu(N:Nat)(bh:cU.bf):Nat→cU.sT
 |0,_,_,_,_,_,_=>none
 |n+1,x7,x8,x9,aQ,bu,db=>cU.BV N bh (cU.Eu N bh n) x7 x8 x9 aQ bu db
def cU.BU(N:Nat)(I8:cU.sT)(bh:cU.bf)(x7:aZ)(x8:Int)(x9:Int)(aQ:Int)(aK:List (Int)):Option (aZ×(Int)×(Int)):=
 (mI N aK).bind fun r8=>(sx N r8).bind fun r9=>cond (!r9.2) (some ([],(0:Int),(2:Int))) ((dQ N (mn r9.1 x8) aK).bind fun jV=>cond (!aA jV.2 0) (some ([],(0:Int),jV.2)) (I8 x7 x8 x9 aQ jV.1 x9))
def cU.KF(N:Nat)(bh:cU.bf)(x7:aZ)(x8:Int)(x9:Int)(aQ:Int)(aK:List (Int)):Option (aZ×(Int)×(Int)):=cU.BU N (cU.Eu N bh N) bh x7 x8 x9 aQ aK
def cU.zL(N:Nat)(yO:cU.I7)(bh:cU.bf)(dW:cU.fV)(x7:aZ)(x8:Int)(x9:Int)(aQ:Int)(aK:List (Int)):Option (aZ×(Int)×(Int)):=
 cond (aG aQ (List.length x7:Int)) (cond (aI aQ (List.length x7)) (cond (aI x9 (List.length x7)) (cond (aA ((List.getD x7 aQ.toNat dX).1) ((List.getD x7 x9.toNat dX).1)) (cond (aI aQ (List.length x7)) (cond (small (List.length aK+List.length ([((((List.getD x7 aQ.toNat dX).2).2).2).1]))) (dW x7 x8 x9 (W .i64 (aQ+1)) (aK++([((((List.getD x7 aQ.toNat dX).2).2).2).1]))) (none)) (none)) (yO x7 x8 x9 aQ aK)) (none)) (none)) (yO x7 x8 x9 aQ aK)
def cU.l8(N:Nat)(bh:cU.bf):Nat→cU.fV
 |0,_,_,_,_,_=>none
 |n+1,x7,x8,x9,aQ,aK=>cU.zL N (cU.KF N bh) bh (cU.l8 N bh n) x7 x8 x9 aQ aK
def cU.c7(N:Nat)(Cc:cU.fV)(bh:cU.bf)(x7:aZ)(x8:Int)(x9:Int):Option (aZ×(Int)×(Int)):=
 cond (aG x9 (List.length x7:Int)) (Cc x7 x8 x9 x9 ([])) (some (x7,x8,(0:Int)))
def cU.l5(N:Nat):Nat→cU.bf
 |0,_,_,_=>none
 |n+1,x7,x8,x9=>cU.c7 N (cU.l8 N (cU.l5 N n) N) (cU.l5 N n) x7 x8 x9
def cU.b(N:Nat)(dw:cU.bf)(a0:aZ)(a1:Int):Option (aZ×(Int)×(Int)):=
 (ow N a0).bind fun r1=>cond (!r1) (some ([],(0:Int),(1:Int))) (cond (aG a1 0) (some ([],(0:Int),(1:Int))) (cond (small (List.length zA+List.length a0)) (dw (zA++a0) a1 (0:Int)) (none)))
def cU(N:Nat)(a0:aZ)(a1:Int):Option (aZ×(Int)×(Int)):=cU.b N (cU.l5 N N) a0 a1
def Wt(N:Nat)(a0:aa)(a1:ag):Option ((Int)×(Int)):=
 (bS N a0 a1).bind fun r1=>cond (!r1) (some ((0:Int),(1:Int))) ((qZ N a1.2.2.1 (2:Int) (0:Int)).bind fun r2=>some ((mx r2 0),(0:Int)))
abbrev iq.ajq:=ag→ag→dd→bx→dd→aZ→Int→Int→Int→Option (ag×dd×(Int))
abbrev iq.Cd:=Int→aa→ag→ag→dd→aZ→Int→bx→dd→aZ→Int→Option (ag×dd×(Int))
def iq.adE(N:Nat)(x6:ag)(aQ:ag)(aK:dd)(fu:bx)(fE:dd)(Ch:aZ)(x21:Int)(x23:Int)(x24:Int):Option (ag×dd×(Int)):=
 (fQ N x21).bind fun rO=>(BW N (2:Int) (0:Int) x23 x24 rO).bind fun uk=>cond (small (List.length fu+List.length uk)) ((xl N x6 aX (fu++uk)).bind fun Cu=>cond (!aA Cu.2 0) (some ((bE,(cg,(aX,(aX,(cC,(cK,())))))),((0:Int),((0:Int),(zA,((0:Int),())))),Cu.2)) (some (Cu.1,(fE.1,(fE.2.1,(Ch,fE.2.2.2))),(0:Int)))) (none)
def iq.j26(N:Nat)(x6:ag)(aQ:ag)(aK:dd)(fu:bx)(fE:dd)(Ch:aZ)(x21:Int)(x23:Int)(x24:Int):Option (ag×dd×(Int)):=iq.adE N x6 aQ aK fu fE Ch x21 x23 x24
def iq.Fv(N:Nat)(abE:iq.ajq)(EC:iq.Cd)(x2:Int)(x5:aa)(x6:ag)(aQ:ag)(aK:dd)(bn:aZ)(cV:Int)(fu:bx)(fE:dd)(Ch:aZ)(ve:Int):Option (ag×dd×(Int)):=
 cond (aG ve (List.length bn:Int)) (cond (aI ve (List.length bn)) (cond (aG 0 ((((((List.getD bn ve.toNat dX).2).2).2).2).1)) (cond (aI ve (List.length bn)) (cond (small (List.length Ch+List.length ([List.getD bn ve.toNat dX]))) (cond (aI ve (List.length bn)) (cond (aI ve (List.length bn)) (cond (aI ve (List.length bn)) ((fQ N ((((((List.getD bn ve.toNat dX).2).2).2).2).1)).bind fun r6=>(BW N (((List.getD bn ve.toNat dX).2).1) ((((List.getD bn ve.toNat dX).2).2).1) (2:Int) (0:Int) r6).bind fun r7=>cond (small (List.length fu+List.length r7)) (EC x2 x5 x6 aQ aK bn cV (fu++r7) (fE.1,(fE.2.1,(zA,fE.2.2.2))) (Ch++([List.getD bn ve.toNat dX])) (W .i64 (ve+1))) (none)) (none)) (none)) (none)) (none)) (none)) (EC x2 x5 x6 aQ aK bn cV fu fE Ch (W .i64 (ve+1)))) (none)) ((fQ N cV).bind fun jV=>(BW N (4:Int) (0:Int) (2:Int) (0:Int) jV).bind fun iX=>cond (small (List.length fu+List.length iX)) (let v13:List ((Int)×((Int)×(((Bool)×((List (Int))×(Unit)))×(Unit)))):=fu++iX;(Wt N x5 x6).bind fun mF=>(uI N x6.2.1 x2).bind fun ob=>cond (!aA ob 0) (abE x6 aQ aK v13 fE Ch mF.1 (5:Int) ob) (abE x6 aQ aK v13 fE Ch mF.1 (6:Int) x2)) (none))
def iq.Gw(N:Nat):Nat→iq.Cd
 |0,_,_,_,_,_,_,_,_,_,_,_=>none
 |n+1,x2,x5,x6,aQ,aK,bn,cV,fu,fE,Ch,ve=>iq.Fv N (iq.j26 N) (iq.Gw N n) x2 x5 x6 aQ aK bn cV fu fE Ch ve
def iq.b(N:Nat)(TB:iq.Cd)(a0:aa)(a1:ag)(a2:Int)(a3:av)(a4:av):Option (ag×dd×(Int)):=
 (cz N a0 a1 a2 a3 a4).bind fun r1=>cond (aA r1.2 1) (some ((bE,(cg,(aX,(aX,(cC,(cK,())))))),((0:Int),((0:Int),(zA,((0:Int),())))),r1.2)) (cond (aA r1.2 3) (some ((bE,(cg,(aX,(aX,(cC,(cK,())))))),((0:Int),((0:Int),(zA,((0:Int),())))),r1.2)) ((Ws N a0 a1).bind fun r2=>cond (!aA r2.2 0) (some ((bE,(cg,(aX,(aX,(cC,(cK,())))))),((0:Int),((0:Int),(zA,((0:Int),())))),r2.2)) (cond (!aA r1.2 0) (some ((bE,(cg,(aX,(aX,(cC,(cK,())))))),((0:Int),((0:Int),(zA,((0:Int),())))),r1.2)) ((cU N r1.1 r2.1).bind fun r3=>cond (!aA r3.2.2 0) (some ((bE,(cg,(aX,(aX,(cC,(cK,())))))),((0:Int),((0:Int),(zA,((0:Int),())))),r3.2.2)) (TB a2 a0 a1 (bE,(cg,(aX,(aX,(cC,(cK,())))))) ((0:Int),((0:Int),(zA,((0:Int),())))) r3.1 r3.2.1 ([]) (a2,(r2.1,(zA,(r3.2.1,())))) zA (0:Int))))))
def iq(N:Nat)(a0:aa)(a1:ag)(a2:Int)(a3:av)(a4:av):Option (ag×dd×(Int)):=iq.b N (iq.Gw N N) a0 a1 a2 a3 a4
abbrev dm.B8:=(List (Int))→(List (Int))→(List (Int))→Int→Int→(List (Int))→Int→Option ((List (Int))×(Int)×(Int))
abbrev dm.e7:=(List (Int))→(List (Int))→(List (Int))→Int→Int→(List (Int))→Bool→Int→Option ((List (Int))×(Int)×(Int))
abbrev dm.fV:=(List (Int))→(List (Int))→(List (Int))→Int→Int→Option ((List (Int))×(Int)×(Int))
def dm.Lu(N:Nat)(dW:dm.fV)(Tv:dm.B8)(x1:List (Int))(x2:List (Int))(aK:List (Int))(aP:Int)(bn:Int)(cV:List (Int))(fE:Int):Option ((List (Int))×(Int)×(Int)):=
 cond (aG fE (List.length x1:Int)) (cond (aI fE (List.length cV)) (cond (aI fE (List.length x2)) (cond (aI fE (List.length aK)) (let TA:Int:=mn (List.getD cV fE.toNat (0:Int)) (W .i64 ((List.getD x2 fE.toNat (0:Int))-(List.getD aK fE.toNat (0:Int))));cond (aI fE (List.length aK)) (cond (aI fE (List.length aK)) (Tv x1 x2 (List.set aK fE.toNat (W .i64 ((List.getD aK fE.toNat (0:Int))+TA))) (W .i64 (aP-TA)) bn cV (W .i64 (fE+1))) (none)) (none)) (none)) (none)) (none)) (dW x1 x2 aK aP (W .i64 (bn+1)))
def dm.O7(N:Nat)(dW:dm.fV):Nat→dm.B8
 |0,_,_,_,_,_,_,_=>none
 |n+1,x1,x2,aK,aP,bn,cV,fE=>dm.Lu N dW (dm.O7 N dW n) x1 x2 aK aP bn cV fE
def dm.jh(N:Nat)(Tx:dm.B8)(dW:dm.fV)(gV:dm.e7)(x1:List (Int))(x2:List (Int))(aK:List (Int))(aP:Int)(bn:Int)(bu:List (Int))(cc:Bool)(db:Int):Option ((List (Int))×(Int)×(Int)):=
 cond (aG db (List.length x1:Int)) (cond (aI db (List.length x1)) (cond (aG 0 (List.getD x1 db.toNat (0:Int))) (cond (aI db (List.length aK)) (cond (aI db (List.length x2)) (cond (aG (List.getD aK db.toNat (0:Int)) (List.getD x2 db.toNat (0:Int))) (cond (aI db (List.length x1)) (cond (aI db (List.length bu)) (gV x1 x2 aK aP bn (List.set bu db.toNat (List.getD x1 db.toNat (0:Int))) true (W .i64 (db+1))) (none)) (none)) (gV x1 x2 aK aP bn bu cc (W .i64 (db+1)))) (none)) (none)) (gV x1 x2 aK aP bn bu cc (W .i64 (db+1)))) (none)) (cond (aA aP 0) (some (aK,aP,(0:Int))) (cond (!cc) (some (aK,aP,(0:Int))) ((dQ N aP bu).bind fun jE=>Tx x1 x2 aK aP bn jE.1 (0:Int))))
def dm.kk(N:Nat)(dW:dm.fV):Nat→dm.e7
 |0,_,_,_,_,_,_,_,_=>none
 |n+1,x1,x2,aK,aP,bn,bu,cc,db=>dm.jh N (dm.O7 N dW N) dW (dm.kk N dW n) x1 x2 aK aP bn bu cc db
def dm.zL(N:Nat)(qm:dm.e7)(dW:dm.fV)(x1:List (Int))(x2:List (Int))(aK:List (Int))(aP:Int)(bn:Int):Option ((List (Int))×(Int)×(Int)):=
 cond (bX bn (List.length x1:Int)) (cond (gg (List.length x1:Int) (List.length x1:Int)) (qm x1 x2 aK aP bn (List.replicate (List.length x1:Int).toNat (0:Int)) false (0:Int)) (none)) (some (aK,aP,(0:Int)))
def dm.l8(N:Nat):Nat→dm.fV
 |0,_,_,_,_,_=>none
 |n+1,x1,x2,aK,aP,bn=>dm.zL N (dm.kk N (dm.l8 N n) N) (dm.l8 N n) x1 x2 aK aP bn
def dm.b(N:Nat)(Cc:dm.fV)(a0:Int)(a1:List (Int))(a2:List (Int)):Option ((List (Int))×(Int)×(Int)):=
 (mS N a0 a1).bind fun r1=>cond (r1) (some ([],(0:Int),(1:Int))) (cond (!aA (List.length a2:Int) (List.length a1:Int)) (some ([],(0:Int),(1:Int))) ((mS N (0:Int) a2).bind fun r2=>cond (r2) (some ([],(0:Int),(1:Int))) ((mI N a1).bind fun r3=>(sx N r3).bind fun r4=>cond (!r4.2) (some ([],(0:Int),(2:Int))) (cond (gg (List.length a1:Int) (List.length a1:Int)) (Cc a1 a2 (List.replicate (List.length a1:Int).toNat (0:Int)) a0 (0:Int)) (none)))))
def dm(N:Nat)(a0:Int)(a1:List (Int))(a2:List (Int)):Option ((List (Int))×(Int)×(Int)):=dm.b N (dm.l8 N N) a0 a1 a2
abbrev rl.TF:=Int→Int→(List (Int))→(List (Int))→aj→Int→Option (aj×(Int))
abbrev rl.sU:=Int→ag→Int→(List (Int))→(List (Int))→Int→Option (aj×(Int))
def rl.adG(N:Nat)(NX:rl.TF)(x2:Int)(x8:Int)(x9:List (Int))(bn:List (Int))(db:aj)(cV:Int):Option (aj×(Int)):=
 cond (aG cV (List.length bn:Int)) (cond (aI cV (List.length bn)) (cond (aG x8 0) (let v17:Int:=W .i64 (0-(List.getD bn cV.toNat (0:Int)));cond (!aA v17 0) (cond (aI cV (List.length x9)) (cond (small (List.length db+List.length ([(List.getD x9 cV.toNat (0:Int),(x2,(v17,())))]))) (NX x2 x8 x9 bn (db++([(List.getD x9 cV.toNat (0:Int),(x2,(v17,())))])) (W .i64 (cV+1))) (none)) (none)) (NX x2 x8 x9 bn db (W .i64 (cV+1)))) (cond (!aA (List.getD bn cV.toNat (0:Int)) (0:Int)) (cond (aI cV (List.length x9)) (cond (small (List.length db+List.length ([(List.getD x9 cV.toNat (0:Int),(x2,(List.getD bn cV.toNat (0:Int),())))]))) (NX x2 x8 x9 bn (db++([(List.getD x9 cV.toNat (0:Int),(x2,(List.getD bn cV.toNat (0:Int),())))])) (W .i64 (cV+1))) (none)) (none)) (NX x2 x8 x9 bn db (W .i64 (cV+1))))) (none)) (some (db,(0:Int)))
def rl.l21(N:Nat):Nat→rl.TF
 |0,_,_,_,_,_,_=>none
 |n+1,x2,x8,x9,bn,db,cV=>rl.adG N (rl.l21 N n) x2 x8 x9 bn db cV
def rl.xm(N:Nat)(ajr:rl.TF)(wK:rl.sU)(x2:Int)(x4:ag)(x8:Int)(x9:List (Int))(aQ:List (Int))(aK:Int):Option (aj×(Int)):=
 cond (aG aK (List.length x4.2.2.2.1:Int)) (cond (aI aK (List.length x4.2.2.2.1)) (cond (!aA ((List.getD x4.2.2.2.1 aK.toNat aM).1) (0:Int)) (cond (aA (((List.getD x4.2.2.2.1 aK.toNat aM).2).1) x2) (cond (!(jT .bool (aG 0 ((((List.getD x4.2.2.2.1 aK.toNat aM).2).2).1)) (aG 0 x8))) (cond (small (List.length x9+List.length ([(List.getD x4.2.2.2.1 aK.toNat aM).1]))) (let v6:Int:=mx ((((List.getD x4.2.2.2.1 aK.toNat aM).2).2).1) (W .i64 (0-((((List.getD x4.2.2.2.1 aK.toNat aM).2).2).1)));cond (small (List.length aQ+List.length ([v6]))) (wK x2 x4 x8 (x9++([(List.getD x4.2.2.2.1 aK.toNat aM).1])) (aQ++([v6])) (W .i64 (aK+1))) (none)) (none)) (wK x2 x4 x8 x9 aQ (W .i64 (aK+1)))) (wK x2 x4 x8 x9 aQ (W .i64 (aK+1)))) (wK x2 x4 x8 x9 aQ (W .i64 (aK+1)))) (none)) ((dm N (mx x8 (W .i64 (0-x8))) aQ aQ).bind fun mF=>cond (!aA mF.2.2 0) (some ([],mF.2.2)) (ajr x2 x8 x9 mF.1 ([((0:Int),(x2,((W .i64 (0-x8)),())))]) (0:Int)))
def rl.zR(N:Nat):Nat→rl.sU
 |0,_,_,_,_,_,_=>none
 |n+1,x2,x4,x8,x9,aQ,aK=>rl.xm N (rl.l21 N N) (rl.zR N n) x2 x4 x8 x9 aQ aK
def rl.b(N:Nat)(Ja:rl.sU)(a0:aa)(a1:ag)(a2:Int):Option (aj×(Int)):=
 (bS N a0 a1).bind fun r1=>cond (!r1) (some ([],(1:Int))) (cond (aG a2 0) (some ([],(3:Int))) (cond (bX (List.length a0.1:Int) a2) (some ([],(3:Int))) ((wS N a1.2.2.2.1 (0:Int) a2).bind fun r2=>cond (aA r2 0) (some ([],(0:Int))) (Ja a2 a1 r2 ([]) ([]) (0:Int)))))
def rl(N:Nat)(a0:aa)(a1:ag)(a2:Int):Option (aj×(Int)):=rl.b N (rl.zR N N) a0 a1 a2
abbrev BZ.bf:=aa→ag→ag→aj→Int→Option (ag×(Int))
def BZ.c7(N:Nat)(bh:BZ.bf)(x2:aa)(x3:ag)(x4:ag)(x6:aj)(x7:Int):Option (ag×(Int)):=
 cond (aG x7 (List.length x2.1:Int)) ((rl N x2 x3 x7).bind fun r3=>cond (!aA r3.2 0) (some ((bE,(cg,(aX,(aX,(cC,(cK,())))))),r3.2)) (cond (small (List.length x6+List.length r3.1)) (bh x2 x3 x4 (x6++r3.1) (W .i64 (x7+1))) (none))) ((xl N x3 x6 ([]:List ((Int)×((Int)×(((Bool)×((List (Int))×(Unit)))×(Unit)))))).bind fun r6=>some (r6.1,r6.2))
def BZ.l5(N:Nat):Nat→BZ.bf
 |0,_,_,_,_,_=>none
 |n+1,x2,x3,x4,x6,x7=>BZ.c7 N (BZ.l5 N n) x2 x3 x4 x6 x7
def BZ.b(N:Nat)(dw:BZ.bf)(a0:aa)(a1:ag):Option (ag×(Int)):=
 (bS N a0 a1).bind fun r1=>cond (!r1) (some ((bE,(cg,(aX,(aX,(cC,(cK,())))))),(1:Int))) (dw a0 a1 (bE,(cg,(aX,(aX,(cC,(cK,())))))) ([]) (0:Int))
def BZ(N:Nat)(a0:aa)(a1:ag):Option (ag×(Int)):=BZ.b N (BZ.l5 N N) a0 a1
abbrev oy.TG:=aR→aR→bY→ba→Int→Int→Option (aR×bY)
def oy.adH(N:Nat)(abF:oy.TG)(x4:aR)(x6:aR)(x7:bY)(bu:ba)(db:Int)(cV:Int):Option (aR×bY):=
 cond (aG cV (List.length bu:Int)) (cond (aI cV (List.length bu)) (cond (aA (((((List.getD bu cV.toNat ((0:Int),(bE,aJ))).2).2).2).1) (2:Int)) (abF x4 x6 x7 bu (W .i64 (db+1)) (W .i64 (cV+1))) (abF x4 x6 x7 bu db (W .i64 (cV+1)))) (none)) (some (x4,((0:Int),(db,((0:Int),())))))
def oy.l41(N:Nat):Nat→oy.TG
 |0,_,_,_,_,_,_=>none
 |n+1,x4,x6,x7,bu,db,cV=>oy.adH N (oy.l41 N n) x4 x6 x7 bu db cV
def oy.b(N:Nat)(ajs:oy.TG)(a0:aa)(a1:aR)(a2:fU):Option (aR×bY):=
 cond (aA a2.1 14) ((Wn N a0 a1.2.2.1 a1.2.2.2.1.1 a2.2.1 a2.2.2.1).bind fun r1=>(et N r1.2).bind fun r2=>some ((a1.1,(a1.2.1,(r1.1,a1.2.2.2))),r2)) (cond (aA a2.1 15) ((gd N a0 a1.2.2.1 a1.2.2.2.1.1).bind fun r3=>(et N r3.2).bind fun r4=>some ((a1.1,(a1.2.1,(r3.1,((a1.2.2.2.1.1,((2:Int),((0:Int),a1.2.2.2.1.2.2.2))),a1.2.2.2.2)))),r4)) (cond (aA a2.1 16) ((mT N a0 a1.2.2.1 a1.2.1).bind fun r5=>some ((a1.1,((W .i64 (a1.2.1+(List.length r5.1:Int))),(a1.2.2.1,((a1.2.2.2.1.1,(a1.2.2.2.1.2.1,(a1.2.2.2.1.2.2.1,(a1.2.2.2.1.2.2.2.1,(r5.1,a1.2.2.2.1.2.2.2.2.2))))),a1.2.2.2.2)))),(r5.2,((List.length r5.1:Int),((0:Int),()))))) (cond (aA a2.1 17) ((ox N a0 a1 a2).bind fun r7=>some (r7.1,r7.2)) (cond (aA a2.1 18) (cond (aA a1.2.2.2.1.2.2.2.1 3) ((et N (5:Int)).bind fun r8=>some (a1,r8)) ((da N a0 a1.2.2.1 a1.2.1).bind fun r9=>cond (!aA r9.2 0) ((et N r9.2).bind fun gA=>some (a1,gA)) ((P3 N a1 a0.2.2.2.2.1).bind fun jV=>cond (!jV.2) ((et N (2:Int)).bind fun iX=>some (a1,iX)) ((oq N a0 a1.2.2.1).bind fun mF=>some ((a1.1,((W .i64 (a1.2.1+(List.length r9.1:Int))),(a1.2.2.1,((a1.2.2.2.1.1,((3:Int),(jV.1,((W .i64 (a1.2.2.2.1.2.2.2.1+1)),(cg,(r9.1,(cg,(mF.1,a1.2.2.2.1.2.2.2.2.2.2.2.2)))))))),a1.2.2.2.2)))),((0:Int),((List.length r9.1:Int),((0:Int),())))))))) (cond (aA a2.1 19) ((Wq N a0 a1.2.2.1 a1.2.2.2.1.2.2.2.2.2.1 a1.2.2.2.1.2.2.2.2.2.2.1 (a1.2.1,(a2.2.2.2.2.2.1,(a2.2.1,(a2.2.2.2.2.2.2.2.1,()))))).bind fun ri=>let v17:Int:=W .i64 (a1.2.1+1);some ((a1.1,(v17,(a1.2.2.1,((a1.2.2.2.1.1,(a1.2.2.2.1.2.1,(a1.2.2.2.1.2.2.1,(a1.2.2.2.1.2.2.2.1,(a1.2.2.2.1.2.2.2.2.1,(a1.2.2.2.1.2.2.2.2.2.1,(ri.1,a1.2.2.2.1.2.2.2.2.2.2.2))))))),a1.2.2.2.2)))),(ri.2,((W .i64 (v17-1)),((0:Int),()))))) (cond (aA a2.1 20) ((pI N a0 a1.2.2.1 a1.2.2.2.1.2.2.2.2.2.1 a1.2.2.2.1.2.2.2.2.2.2.1).bind fun Jc=>cond (!aA Jc.2.2 0) ((et N Jc.2.2).bind fun Cu=>some (a1,Cu)) ((cM N a0 a1.2.2.2.1.2.2.2.2.2.2.2.2.1 a1.2.2.2.1.2.2.2.2.2.2.2.1 Jc.2.1 a1.2.2.2.1.2.2.2.2.2.2.1).bind fun KG=>ajs (a1.1,(a1.2.1,(Jc.1,((a1.2.2.2.1.1,((2:Int),((0:Int),(a1.2.2.2.1.2.2.2.1,(a1.2.2.2.1.2.2.2.2.1,(Jc.2.1,(a1.2.2.2.1.2.2.2.2.2.2.1,(a1.2.2.2.1.2.2.2.2.2.2.2.1,(KG.1,a1.2.2.2.1.2.2.2.2.2.2.2.2.2))))))))),a1.2.2.2.2)))) ((0:Int),((0:Int),((bE,(cg,(aX,(aX,(cC,(cK,())))))),(((0:Int),((0:Int),((0:Int),((0:Int),(cg,(([]:List ((Int)×((List ((Int)×((Int)×(Unit))))×((Int)×((Int)×((Int)×((Int)×(Unit)))))))),(cg,(cC,(bE,(bE,())))))))))),(((0:Int),((0:Int),(zA,((0:Int),())))),()))))) aM Jc.2.1 (0:Int) (0:Int))) (cond (aA a2.1 21) ((iq N a0 a1.2.2.1 a1.2.2.2.1.1 a1.2.2.2.1.2.2.2.2.2.2.2.2.1 a1.2.2.2.1.2.2.2.2.2.2.2.2.2.1).bind fun yN=>cond (!aA yN.2.2 0) ((et N yN.2.2).bind fun Qa=>some (a1,Qa)) ((BZ N a0 yN.1).bind fun r28=>cond (!aA r28.2 0) ((et N r28.2).bind fun Ez=>some (a1,Ez)) ((mB N r28.1.1 a1.2.2.2.1.1 a2.1).bind fun Mt=>some ((a1.1,(a1.2.1,((Mt.1,r28.1.2),(((0:Int),((0:Int),((0:Int),((0:Int),(cg,(([]:List ((Int)×((List ((Int)×((Int)×(Unit))))×((Int)×((Int)×((Int)×((Int)×(Unit)))))))),(cg,(cC,(bE,(bE,())))))))))),(yN.2.1,a1.2.2.2.2.2))))),(Mt.2,((0:Int),(yN.2.1.2.1,()))))))) ((et N (0:Int)).bind fun NW=>some (a1,NW)))))))))
def oy(N:Nat)(a0:aa)(a1:aR)(a2:fU):Option (aR×bY):=oy.b N (oy.l41 N N) a0 a1 a2
abbrev rm.TD:=aa→aR→fU→aR→bY→Option (aR×bY)
def rm.Mj(N:Nat)(x3:aa)(x4:aR)(x5:fU)(x6:aR)(x7:bY):Option (aR×bY):=
 (WA N x4 x5.1).bind fun Qa=>cond (!Qa) ((et N (6:Int)).bind fun r28=>some (x4,r28)) ((oy N x3 x4 x5).bind fun Ez=>some (Ez.1,Ez.2))
def rm.S7(N:Nat)(x3:aa)(x4:aR)(x5:fU)(x6:aR)(x7:bY):Option (aR×bY):=rm.Mj N x3 x4 x5 x6 x7
def rm.b(N:Nat)(Jd:rm.TD)(a0:aa)(a1:aR)(a2:fU):Option (aR×bY):=
 cond (aA a2.1 11) ((mB N a1.2.2.1.1 a2.2.1 a2.1).bind fun r1=>cond (aA r1.2 0) (cond (aA a2.1 11) ((PN N a0 (r1.1,a1.2.2.1.2) a2.2.1).bind fun r2=>cond (aA a1.2.2.2.1.2.1 3) ((mV N a1.2.2.2.1.2.2.2.2.2.2.1 a2.2.1).bind fun r3=>(et N r1.2).bind fun r4=>some ((a1.1,(a1.2.1,(r2.1,((a1.2.2.2.1.1,(a1.2.2.2.1.2.1,(a1.2.2.2.1.2.2.1,(a1.2.2.2.1.2.2.2.1,(a1.2.2.2.1.2.2.2.2.1,(a1.2.2.2.1.2.2.2.2.2.1,(r3,a1.2.2.2.1.2.2.2.2.2.2.2))))))),a1.2.2.2.2)))),r4)) ((et N r1.2).bind fun r5=>some ((a1.1,(a1.2.1,(r2.1,a1.2.2.2))),r5))) ((et N r1.2).bind fun r6=>some ((a1.1,(a1.2.1,((r1.1,a1.2.2.1.2),a1.2.2.2))),r6))) ((et N r1.2).bind fun r7=>some ((a1.1,(a1.2.1,((r1.1,a1.2.2.1.2),a1.2.2.2))),r7))) (cond (aA a2.1 12) ((mB N a1.2.2.1.1 a2.2.1 a2.1).bind fun r8=>cond (aA r8.2 0) (cond (aA a2.1 11) ((PN N a0 (r8.1,a1.2.2.1.2) a2.2.1).bind fun r9=>cond (aA a1.2.2.2.1.2.1 3) ((mV N a1.2.2.2.1.2.2.2.2.2.2.1 a2.2.1).bind fun gA=>(et N r8.2).bind fun jV=>some ((a1.1,(a1.2.1,(r9.1,((a1.2.2.2.1.1,(a1.2.2.2.1.2.1,(a1.2.2.2.1.2.2.1,(a1.2.2.2.1.2.2.2.1,(a1.2.2.2.1.2.2.2.2.1,(a1.2.2.2.1.2.2.2.2.2.1,(gA,a1.2.2.2.1.2.2.2.2.2.2.2))))))),a1.2.2.2.2)))),jV)) ((et N r8.2).bind fun iX=>some ((a1.1,(a1.2.1,(r9.1,a1.2.2.2))),iX))) ((et N r8.2).bind fun jE=>some ((a1.1,(a1.2.1,((r8.1,a1.2.2.1.2),a1.2.2.2))),jE))) ((et N r8.2).bind fun mF=>some ((a1.1,(a1.2.1,((r8.1,a1.2.2.1.2),a1.2.2.2))),mF))) (cond (aA a2.1 13) ((Ga N a1 a2.2.1).bind fun ob=>cond (aA ob 0) ((et N (3:Int)).bind fun ri=>some (a1,ri)) (cond (!aA a1.2.2.2.1.2.1 0) ((et N (6:Int)).bind fun rO=>some (a1,rO)) ((mB N a1.2.2.1.1 a2.2.1 a2.1).bind fun uk=>cond (!aA uk.2 0) ((et N uk.2).bind fun Jc=>some ((a1.1,(a1.2.1,((uk.1,a1.2.2.1.2),a1.2.2.2))),Jc)) ((P3 N (a1.1,(a1.2.1,((uk.1,a1.2.2.1.2),a1.2.2.2))) a0.2.2.2.1).bind fun Cu=>cond (!Cu.2) ((et N (2:Int)).bind fun KG=>some ((a1.1,(a1.2.1,((uk.1,a1.2.2.1.2),a1.2.2.2))),KG)) (some ((a1.1,(a1.2.1,((uk.1,a1.2.2.1.2),((a2.2.1,((1:Int),(Cu.1,((0:Int),(cg,(([]:List ((Int)×((List ((Int)×((Int)×(Unit))))×((Int)×((Int)×((Int)×((Int)×(Unit)))))))),(cg,(cC,(bE,(bE,())))))))))),a1.2.2.2.2)))),aM)))))) (cond (aA a2.1 19) ((Ga N a1 a2.2.1).bind fun KJ=>cond (aA KJ 0) ((et N (3:Int)).bind fun B4=>some (a1,B4)) ((Ga N a1 a2.2.1).bind fun Gy=>cond (!aA Gy 1) ((et N (7:Int)).bind fun EB=>some (a1,EB)) (Jd a0 a1 a2 ((0:Int),((0:Int),((bE,(cg,(aX,(aX,(cC,(cK,())))))),(((0:Int),((0:Int),((0:Int),((0:Int),(cg,(([]:List ((Int)×((List ((Int)×((Int)×(Unit))))×((Int)×((Int)×((Int)×((Int)×(Unit)))))))),(cg,(cC,(bE,(bE,())))))))))),(((0:Int),((0:Int),(zA,((0:Int),())))),()))))) aM))) (Jd a0 a1 a2 ((0:Int),((0:Int),((bE,(cg,(aX,(aX,(cC,(cK,())))))),(((0:Int),((0:Int),((0:Int),((0:Int),(cg,(([]:List ((Int)×((List ((Int)×((Int)×(Unit))))×((Int)×((Int)×((Int)×((Int)×(Unit)))))))),(cg,(cC,(bE,(bE,())))))))))),(((0:Int),((0:Int),(zA,((0:Int),())))),()))))) aM))))
def rm(N:Nat)(a0:aa)(a1:aR)(a2:fU):Option (aR×bY):=rm.b N (rm.S7 N) a0 a1 a2
def WD(N:Nat)(a0:aa)(a1:aR)(a2:fU):Option (aR×bY):=
 cond (aA a2.1 1) ((il N a1.2.2.1.1 a2.2.1).bind fun r1=>(et N r1.2).bind fun r2=>some ((a1.1,(a1.2.1,((r1.1,a1.2.2.1.2),a1.2.2.2))),r2)) (cond (aA a2.1 2) ((eV N a1.2.2.1.1 a1.2.2.1.2.1 (a2.2.2.1,(a2.2.1,(a2.2.2.2.2.1,((0:Int),()))))).bind fun r3=>(et N r3.2).bind fun r4=>some ((a1.1,(a1.2.1,((a1.2.2.1.1,(r3.1,a1.2.2.1.2.2)),a1.2.2.2))),r4)) (cond (aA a2.1 3) ((Tl N a1 a2.2.2.1).bind fun r5=>cond (!r5) ((et N (3:Int)).bind fun r6=>some (a1,r6)) ((P4 N a1 (1:Int) (0:Int) (5:Int) a2.2.2.1 a2.2.2.2.2.2.2.1).bind fun r7=>some (r7.1,r7.2))) (cond (aA a2.1 4) ((Wl N a0 a1.2.2.1 a2.2.2.1 a2.2.2.2.2.2.2.1).bind fun r8=>(et N r8.2).bind fun r9=>some ((a1.1,(a1.2.1,(r8.1,a1.2.2.2))),r9)) (cond (aA a2.1 5) ((Ga N a1 a2.2.1).bind fun gA=>cond (aA gA 0) ((et N (3:Int)).bind fun jV=>some (a1,jV)) ((Ga N a1 a2.2.1).bind fun iX=>cond (!aA iX 1) ((et N (7:Int)).bind fun jE=>some (a1,jE)) ((P4 N a1 (1:Int) (0:Int) (6:Int) a2.2.1 a2.2.2.2.2.2.2.1).bind fun mF=>some (mF.1,mF.2)))) (cond (aA a2.1 22) ((Ga N a1 a2.2.1).bind fun ob=>cond (aA ob 0) ((et N (3:Int)).bind fun ri=>some (a1,ri)) ((qZ N a1.2.2.1.2.2.1 (7:Int) a2.2.1).bind fun rO=>(fQ N rO).bind fun uk=>(Qn N uk).bind fun Jc=>(fQ N a2.2.2.2.2.2.2.1).bind fun Cu=>(DB N Cu Jc).bind fun KG=>cond (aG 0 KG) ((et N (9:Int)).bind fun KJ=>some (a1,KJ)) ((P4 N a1 (1:Int) (0:Int) (7:Int) a2.2.1 a2.2.2.2.2.2.2.1).bind fun B4=>some (B4.1,B4.2)))) (cond (aA a2.1 6) ((oe N a1.2.2.1.2.1 a2.2.2.1 a2.2.2.2.2.2.2.1).bind fun Gy=>(et N Gy.2).bind fun EB=>some ((a1.1,(a1.2.1,((a1.2.2.1.1,(Gy.1,a1.2.2.1.2.2)),a1.2.2.2))),EB)) (cond (aA a2.1 7) ((jP N a0 a1.2.2.1 (a1.2.1,(a2.2.2.1,(a2.2.2.2.1,(a2.2.2.2.2.1,(a2.2.2.2.2.2.2.1,(a2.2.2.2.2.2.2.2.1,()))))))).bind fun yN=>let v27:Int:=W .i64 (a1.2.1+1);some ((a1.1,(v27,(yN.1,a1.2.2.2))),(yN.2.2.2,((W .i64 (v27-1)),((W .i64 (a2.2.2.2.2.2.2.1-yN.2.2.1)),()))))) (cond (aA a2.1 8) ((Tl N a1 a2.2.2.1).bind fun Mt=>cond (!Mt) ((et N (3:Int)).bind fun NW=>some (a1,NW)) ((oi N a1.2.2.1.2.2.2.2.2.1 a2.2.2.1 a2.2.2.2.2.2.1).bind fun r32=>(et N r32.2).bind fun r33=>some ((a1.1,(a1.2.1,((a1.2.2.1.1,(a1.2.2.1.2.1,(a1.2.2.1.2.2.1,(a1.2.2.1.2.2.2.1,(a1.2.2.1.2.2.2.2.1,(r32.1,a1.2.2.1.2.2.2.2.2.2)))))),a1.2.2.2))),r33))) (cond (aA a2.1 9) ((Wk N a0 a1.2.2.1 a2.2.2.2.1 a2.2.2.2.2.2.2.2.1).bind fun Tu=>cond (aA Tu.2.2 0) (cond (!aA a1.2.2.2.1.2.1 0) ((dr N a1.2.2.2.1.2.2.2.2.2.2.2.2.2.1 Tu.2.1).bind fun r35=>(et N r35.2).bind fun r36=>some ((a1.1,(a1.2.1,(Tu.1,((a1.2.2.2.1.1,(a1.2.2.2.1.2.1,(a1.2.2.2.1.2.2.1,(a1.2.2.2.1.2.2.2.1,(a1.2.2.2.1.2.2.2.2.1,(a1.2.2.2.1.2.2.2.2.2.1,(a1.2.2.2.1.2.2.2.2.2.2.1,(a1.2.2.2.1.2.2.2.2.2.2.2.1,(a1.2.2.2.1.2.2.2.2.2.2.2.2.1,(r35.1,a1.2.2.2.1.2.2.2.2.2.2.2.2.2.2)))))))))),a1.2.2.2.2)))),r36)) ((et N Tu.2.2).bind fun r37=>some ((a1.1,(a1.2.1,(Tu.1,a1.2.2.2))),r37))) ((et N Tu.2.2).bind fun r38=>some ((a1.1,(a1.2.1,(Tu.1,a1.2.2.2))),r38))) (cond (aA a2.1 10) ((P3 N a1 a2.2.2.2.2.2.2.1).bind fun r39=>cond (!r39.2) ((et N (2:Int)).bind fun r40=>some (a1,r40)) (some ((r39.1,a1.2),aM))) ((rm N a0 a1 a2).bind fun r41=>some (r41.1,r41.2))))))))))))
def WG(N:Nat)(a0:aa)(a1:aR)(a2:fU):Option (aR×bY):=
 (jd N a0).bind fun r1=>cond (!r1) (some (a1,((1:Int),bL))) ((od N a2).bind fun r2=>cond (!r2) (some (a1,((1:Int),bL))) ((WD N a0 a1 a2).bind fun r3=>cond (!aA r3.2.1 0) (some (a1,(r3.2.1,bL))) (some (r3.1,r3.2))))
abbrev B2.fe:=gn→aa→aR→aR→aj→Int→Option (aR×aj)
def B2.pE(N:Nat)(ff:B2.fe)(x1:gn)(x2:aa)(x4:aR)(x6:aR)(x8:aj)(x9:Int):Option (aR×aj):=
 cond (aG x9 (List.length x1:Int)) (cond (aI x9 (List.length x1)) ((WG N x2 x6 (List.getD x1 x9.toNat zz8)).bind fun r3=>cond (small (List.length x8+List.length ([r3.2]))) (ff x1 x2 x4 r3.1 (x8++([r3.2])) (W .i64 (x9+1))) (none)) (none)) (some (x6,x8))
def B2.l6(N:Nat):Nat→B2.fe
 |0,_,_,_,_,_,_=>none
 |n+1,x1,x2,x4,x6,x8,x9=>B2.pE N (B2.l6 N n) x1 x2 x4 x6 x8 x9
def B2.b(N:Nat)(rr:B2.fe)(a0:aa)(a1:gn):Option (aR×aj):=
 (adJ N a0).bind fun r1=>cond (!aA r1.2 0) (some (((0:Int),((0:Int),((bE,(cg,(aX,(aX,(cC,(cK,())))))),(((0:Int),((0:Int),((0:Int),((0:Int),(cg,(([]:List ((Int)×((List ((Int)×((Int)×(Unit))))×((Int)×((Int)×((Int)×((Int)×(Unit)))))))),(cg,(cC,(bE,(bE,())))))))))),(((0:Int),((0:Int),(zA,((0:Int),())))),()))))),[])) (rr a1 a0 ((0:Int),((0:Int),((bE,(cg,(aX,(aX,(cC,(cK,())))))),(((0:Int),((0:Int),((0:Int),((0:Int),(cg,(([]:List ((Int)×((List ((Int)×((Int)×(Unit))))×((Int)×((Int)×((Int)×((Int)×(Unit)))))))),(cg,(cC,(bE,(bE,())))))))))),(((0:Int),((0:Int),(zA,((0:Int),())))),()))))) r1.1 ([]) (0:Int))
def B2(N:Nat)(a0:aa)(a1:gn):Option (aR×aj):=B2.b N (B2.l6 N N) a0 a1
def F28(N:Nat)(a0:aO)(a1:aa)(a2:Int):Option (aR×aO):=
 (zZ N a0 a1 a2).bind fun r1=>(nr N r1.2 (2:Int)).bind fun r2=>let v3:Int:=W .i64 ((1:Int)+r2.1);cond (small (List.length r1.1+List.length ([((11:Int),(v3,dT)),((13:Int),(v3,dT))]))) (let v4:List ((Int)×((Int)×((Int)×((Int)×((Int)×((Int)×((Int)×((Int)×(Unit))))))))):=r1.1++([((11:Int),(v3,dT)),((13:Int),(v3,dT))]);(zq N r2.2 a1).bind fun r5=>cond (small (List.length v4+List.length r5.1)) (let v6:List ((Int)×((Int)×((Int)×((Int)×((Int)×((Int)×((Int)×((Int)×(Unit))))))))):=v4++r5.1;cond (small (List.length v6+List.length ([((10:Int),((0:Int),((0:Int),((0:Int),((0:Int),((0:Int),((2:Int),((0:Int),())))))))),((15:Int),zz7)]))) (let v7:List ((Int)×((Int)×((Int)×((Int)×((Int)×((Int)×((Int)×((Int)×(Unit))))))))):=v6++([((10:Int),((0:Int),((0:Int),((0:Int),((0:Int),((0:Int),((2:Int),((0:Int),())))))))),((15:Int),zz7)]);(zq N r5.2 a1).bind fun r8=>cond (small (List.length v7+List.length r8.1)) ((B2 N a1 (v7++r8.1)).bind fun gA=>some (gA.1,r8.2)) (none)) (none)) (none)) (none)
abbrev mU.aY:=aD→aD→Int→Option (Bool)
def mU.cD(N:Nat)(bA:mU.aY)(x0:aD)(x1:aD)(x5:Int):Option (Bool):=
 cond (aG x5 (List.length x0:Int)) (cond (aI x5 (List.length x0)) (cond (aI x5 (List.length x1)) (cond (!(jT (.pair (.int .i64) (.pair (.int .i64) (.pair (.int .i64) (.pair (.int .i64) .unit)))) (List.getD x0 x5.toNat aJ) (List.getD x1 x5.toNat aJ))) (some false) (bA x0 x1 (W .i64 (x5+1)))) (none)) (none)) (some true)
def mU.l4(N:Nat):Nat→mU.aY
 |0,_,_,_=>none
 |n+1,x0,x1,x5=>mU.cD N (mU.l4 N n) x0 x1 x5
def mU.b(N:Nat)(c6:mU.aY)(a0:aD)(a1:aD):Option (Bool):=
 cond (!aA (List.length a0:Int) (List.length a1:Int)) (some false) (c6 a0 a1 (0:Int))
def mU(N:Nat)(a0:aD)(a1:aD):Option (Bool):=mU.b N (mU.l4 N N) a0 a1
def F46(N:Nat)(a0:aT):Option ax:=
 (fQ N a0.1).bind fun r1=>(OP N false ([(0:Int),(0:Int),(1:Int)])).bind fun r2=>(gf N r1 r2).bind fun r3=>(F67 N a0.2.1).bind fun r4=>(OP N false r4).bind fun r5=>(uc N r3 r5).bind fun r6=>some r6
def V3(N:Nat)(a0:aT)(a1:ax):Option (Bool):=
 (F46 N a0).bind fun r1=>(DB N r1 a1).bind fun r2=>some (aA r2 0)
abbrev mP.aY:=av→av→Int→Option (Bool)
def mP.cD(N:Nat)(bA:mP.aY)(x0:av)(x1:av)(x5:Int):Option (Bool):=
 cond (aG x5 (List.length x0:Int)) (cond (aI x5 (List.length x0)) (cond (aI x5 (List.length x1)) (cond (!(jT (.pair (.int .i64) (.pair (.int .i64) .unit)) (List.getD x0 x5.toNat bL) (List.getD x1 x5.toNat bL))) (some false) (bA x0 x1 (W .i64 (x5+1)))) (none)) (none)) (some true)
def mP.l4(N:Nat):Nat→mP.aY
 |0,_,_,_=>none
 |n+1,x0,x1,x5=>mP.cD N (mP.l4 N n) x0 x1 x5
def mP.b(N:Nat)(c6:mP.aY)(a0:av)(a1:av):Option (Bool):=
 cond (!aA (List.length a0:Int) (List.length a1:Int)) (some false) (c6 a0 a1 (0:Int))
def mP(N:Nat)(a0:av)(a1:av):Option (Bool):=mP.b N (mP.l4 N N) a0 a1
abbrev mQ.aY:=aD→aD→Int→Option (Bool)
def mQ.cD(N:Nat)(bA:mQ.aY)(x0:aD)(x1:aD)(x5:Int):Option (Bool):=
 cond (aG x5 (List.length x0:Int)) (cond (aI x5 (List.length x0)) (cond (aI x5 (List.length x1)) (cond (!(jT (.pair (.int .i64) (.pair (.int .i64) (.pair (.int .i64) (.pair (.int .i64) .unit)))) (List.getD x0 x5.toNat aJ) (List.getD x1 x5.toNat aJ))) (some false) (bA x0 x1 (W .i64 (x5+1)))) (none)) (none)) (some true)
def mQ.l4(N:Nat):Nat→mQ.aY
 |0,_,_,_=>none
 |n+1,x0,x1,x5=>mQ.cD N (mQ.l4 N n) x0 x1 x5
def mQ.b(N:Nat)(c6:mQ.aY)(a0:aD)(a1:aD):Option (Bool):=
 cond (!aA (List.length a0:Int) (List.length a1:Int)) (some false) (c6 a0 a1 (0:Int))
def mQ(N:Nat)(a0:aD)(a1:aD):Option (Bool):=mQ.b N (mQ.l4 N N) a0 a1
abbrev zj.aY:=aj→aj→Int→Option (Bool)
def zj.cD(N:Nat)(bA:zj.aY)(x0:aj)(x1:aj)(x5:Int):Option (Bool):=
 cond (aG x5 (List.length x0:Int)) (cond (aI x5 (List.length x0)) (cond (aI x5 (List.length x1)) (cond (!(jT (.pair (.int .i64) (.pair (.int .i64) (.pair (.int .i64) .unit))) (List.getD x0 x5.toNat aM) (List.getD x1 x5.toNat aM))) (some false) (bA x0 x1 (W .i64 (x5+1)))) (none)) (none)) (some true)
def zj.l4(N:Nat):Nat→zj.aY
 |0,_,_,_=>none
 |n+1,x0,x1,x5=>zj.cD N (zj.l4 N n) x0 x1 x5
def zj.b(N:Nat)(c6:zj.aY)(a0:aj)(a1:aj):Option (Bool):=
 cond (!aA (List.length a0:Int) (List.length a1:Int)) (some false) (c6 a0 a1 (0:Int))
def zj(N:Nat)(a0:aj)(a1:aj):Option (Bool):=zj.b N (zj.l4 N N) a0 a1
abbrev zk.aY:=aj→aj→Int→Option (Bool)
def zk.cD(N:Nat)(bA:zk.aY)(x0:aj)(x1:aj)(x5:Int):Option (Bool):=
 cond (aG x5 (List.length x0:Int)) (cond (aI x5 (List.length x0)) (cond (aI x5 (List.length x1)) (cond (!(jT (.pair (.int .i64) (.pair (.int .i64) (.pair (.int .i64) .unit))) (List.getD x0 x5.toNat aM) (List.getD x1 x5.toNat aM))) (some false) (bA x0 x1 (W .i64 (x5+1)))) (none)) (none)) (some true)
def zk.l4(N:Nat):Nat→zk.aY
 |0,_,_,_=>none
 |n+1,x0,x1,x5=>zk.cD N (zk.l4 N n) x0 x1 x5
def zk.b(N:Nat)(c6:zk.aY)(a0:aj)(a1:aj):Option (Bool):=
 cond (!aA (List.length a0:Int) (List.length a1:Int)) (some false) (c6 a0 a1 (0:Int))
def zk(N:Nat)(a0:aj)(a1:aj):Option (Bool):=zk.b N (zk.l4 N N) a0 a1
abbrev zm.aY:=(List (Int))→(List (Int))→Int→Option (Bool)
def zm.cD(N:Nat)(bA:zm.aY)(x0:List (Int))(x1:List (Int))(x5:Int):Option (Bool):=
 cond (aG x5 (List.length x0:Int)) (cond (aI x5 (List.length x0)) (cond (aI x5 (List.length x1)) (cond (!aA (List.getD x0 x5.toNat (0:Int)) (List.getD x1 x5.toNat (0:Int))) (some false) (bA x0 x1 (W .i64 (x5+1)))) (none)) (none)) (some true)
def zm.l4(N:Nat):Nat→zm.aY
 |0,_,_,_=>none
 |n+1,x0,x1,x5=>zm.cD N (zm.l4 N n) x0 x1 x5
def zm.b(N:Nat)(c6:zm.aY)(a0:List (Int))(a1:List (Int)):Option (Bool):=
 cond (!aA (List.length a0:Int) (List.length a1:Int)) (some false) (c6 a0 a1 (0:Int))
def zm(N:Nat)(a0:List (Int))(a1:List (Int)):Option (Bool):=zm.b N (zm.l4 N N) a0 a1
abbrev zl.aY:=aU→aU→Int→Option (Bool)
def zl.cD(N:Nat)(bA:zl.aY)(x0:aU)(x1:aU)(x5:Int):Option (Bool):=
 cond (aG x5 (List.length x0:Int)) (cond (aI x5 (List.length x0)) (cond (aI x5 (List.length x1)) (cond (!(jT (.pair (.int .i64) (.pair (.int .i64) (.pair (.int .i64) (.pair (.int .i64) (.pair (.int .i64) (.pair (.int .i64) .unit)))))) (List.getD x0 x5.toNat dT) (List.getD x1 x5.toNat dT))) (some false) (bA x0 x1 (W .i64 (x5+1)))) (none)) (none)) (some true)
def zl.l4(N:Nat):Nat→zl.aY
 |0,_,_,_=>none
 |n+1,x0,x1,x5=>zl.cD N (zl.l4 N n) x0 x1 x5
def zl.b(N:Nat)(c6:zl.aY)(a0:aU)(a1:aU):Option (Bool):=
 cond (!aA (List.length a0:Int) (List.length a1:Int)) (some false) (c6 a0 a1 (0:Int))
def zl(N:Nat)(a0:aU)(a1:aU):Option (Bool):=zl.b N (zl.l4 N N) a0 a1
def F57(N:Nat)(a0:ag)(a1:ag):Option (Bool):=
 (mP N a0.1 a1.1).bind fun r1=>cond (r1) ((mQ N a0.2.1 a1.2.1).bind fun r2=>cond (r2) ((zj N a0.2.2.1 a1.2.2.1).bind fun r3=>cond (r3) ((zk N a0.2.2.2.1 a1.2.2.2.1).bind fun r4=>cond (r4) ((zm N a0.2.2.2.2.1 a1.2.2.2.2.1).bind fun r5=>cond (r5) ((zl N a0.2.2.2.2.2.1 a1.2.2.2.2.2.1).bind fun r6=>some r6) (some false)) (some false)) (some false)) (some false)) (some false)
abbrev tN.wE:=bp→c3→iw→ag→ag→Int→Option (Bool)
def tN.C6(N:Nat)(TH:tN.wE)(x9:bp)(cc:c3)(cV:iw)(x23:ag)(x26:ag)(NV:Int):Option (Bool):=
 cond (aG NV (List.length cc:Int)) (cond (aI NV (List.length cc)) (cond (aI NV (List.length cV)) ((V3 N (List.getD cc NV.toNat bL) (List.getD cV NV.toNat (false,kV))).bind fun r9=>cond (!r9) (some false) (TH x9 cc cV x23 x26 (W .i64 (NV+1)))) (none)) (none)) ((F57 N x23 x26).bind fun jV=>cond (jV) ((F48 N x9).bind fun iX=>(PD N x9).bind fun jE=>some (jT .bool iX jE)) (some false))
def tN.KD(N:Nat):Nat→tN.wE
 |0,_,_,_,_,_,_=>none
 |n+1,x9,cc,cV,x23,x26,NV=>tN.C6 N (tN.KD N n) x9 cc cV x23 x26 NV
def tN.b(N:Nat)(TI:tN.wE)(a0:aa)(a1:ag)(a2:bp)(a3:Int)(a4:Int)(a5:Int)(a6:Int):Option (Bool):=
 (wq N a0 a1).bind fun r1=>(jO N a0 a1).bind fun r2=>(qq N a0 a1 a3).bind fun r3=>(mT N a0 a1 a3).bind fun r4=>(BP N a0 a1 a2 a4 a5 a6).bind fun r5=>(mz N a0 a1 a2 a4 a5 a6).bind fun r6=>cond (!aA r1.2 r2.2) (some false) (cond (!aA r3.2 r4.2) (some false) (cond (!aA r5.2.2 r6.2.2) (some false) (cond (!aA (List.length r1.1:Int) (List.length r2.1:Int)) (some false) ((mU N r3.1 r4.1).bind fun r7=>cond (!r7) (some false) (cond (!(jT (.pair (.int .i64) (.pair (.int .i64) (.pair (.int .i64) (.pair (.int .i64) .unit)))) r5.2.1 r6.2.1)) (some false) (TI a2 r1.1 r2.1 r5.1 r6.1 (0:Int)))))))
def tN(N:Nat)(a0:aa)(a1:ag)(a2:bp)(a3:Int)(a4:Int)(a5:Int)(a6:Int):Option (Bool):=tN.b N (tN.KD N N) a0 a1 a2 a3 a4 a5 a6
abbrev F9.wE:=aO→aa→aR→aD→Int→Option (Bool)
def F9.C6(N:Nat)(TH:F9.wE)(x5:aO)(x6:aa)(x7:aR)(x8:aD)(aQ:Int):Option (Bool):=
 cond (aG aQ (List.length x8:Int)) (cond (aI aQ (List.length x8)) ((nr N x5 (7:Int)).bind fun uk=>(F42 N uk.2).bind fun Cu=>cond (aI aQ (List.length x8)) (let v21:Int:=W .u64 (((((List.getD x8 aQ.toNat aJ).2).2).2).1);cond (aA v21 0) (none) (cond (aI aQ (List.length x8)) (cond (aI (((List.getD x8 aQ.toNat aJ).2).1) (List.length x7.2.2.1.2.2.2.2.1)) ((tN N x6 x7.2.2.1 (List.getD x8 aQ.toNat aJ) x7.2.1 (W .i64 ((1:Int)+uk.1)) (W .i64 ((1:Int)+(W .i64 (rem Cu.1 v21)))) (List.getD x7.2.2.1.2.2.2.2.1 (((List.getD x8 aQ.toNat aJ).2).1).toNat (0:Int))).bind fun EB=>cond (!EB) (some false) (TH Cu.2 x6 x7 x8 (W .i64 (aQ+1)))) (none)) (none))) (none)) (none)) (some true)
def F9.KD(N:Nat):Nat→F9.wE
 |0,_,_,_,_,_=>none
 |n+1,x5,x6,x7,x8,aQ=>F9.C6 N (F9.KD N n) x5 x6 x7 x8 aQ
def F9.b(N:Nat)(TI:F9.wE)(a0:List (Int))(a1:Int):Option (Bool):=
 (F38 N).bind fun r1=>cond (!r1) (some false) ((F13 N a0).bind fun r2=>(rk N r2).bind fun r3=>(F28 N r3.2 r3.1 (20:Int)).bind fun r4=>(mT N r3.1 r4.1.2.2.1 r4.1.2.1).bind fun r5=>(nr N r4.2 (2:Int)).bind fun r6=>(nr N r6.2 (9:Int)).bind fun r8=>(nr N r8.2 (7:Int)).bind fun gA=>(nr N gA.2 (9:Int)).bind fun iX=>(nr N iX.2 (300:Int)).bind fun mF=>(tN N r3.1 r4.1.2.2.1 ((1:Int),((0:Int),((W .i64 ((1:Int)+r6.1)),((W .i64 ((1:Int)+r8.1)),())))) a1 (W .i64 ((1:Int)+gA.1)) (W .i64 ((1:Int)+iX.1)) (W .i64 ((1:Int)+mF.1))).bind fun ri=>cond (!ri) (some false) (TI mF.2 r3.1 r4.1 r5.1 (0:Int)))
def F9(N:Nat)(a0:List (Int))(a1:Int):Option (Bool):=F9.b N (F9.KD N N) a0 a1
end
end VM.F
