/- A part of the proof of TearDrawn of layer 29: the functions as equations between values, printed by a program. -/
import Derived.Test.YtocmlaipoebfeaaGreatVm0
set_option linter.all false
namespace VM.F
open Go VM
set_option maxRecDepth 100000
noncomputable section
abbrev pS:Ty:=(.pair .str .unit)
abbrev g5:Ty:=(.pair .str (.pair (.int .u64) .unit))
abbrev gP:Ty:=(.pair (.int .i64) (.pair (.int .i64) .unit))
abbrev eK:Ty:=(.pair (.int .i64) (.pair (.int .u64) .unit))
abbrev bO:Ty:=(.pair .bool (.pair (.slice (.int .u64)) .unit))
abbrev dv:Ty:=(.pair (.slice (.int .u64)) (.pair (.int .i64) .unit))
abbrev fU:Ty:=(.pair (.int .i64) gP)
abbrev pT:Ty:=(.pair (.int .i64) (.pair (.int .i64) (.pair .bool (.pair (.int .u8) .unit))))
abbrev df:Ty:=(.pair (.int .i64) fU)
abbrev wa:Ty:=(.pair (.int .i64) (.pair (.int .i64) (.pair eK .unit)))
abbrev oV:Ty:=(.pair (.int .i64) df)
abbrev nr:Ty:=(.pair (.int .i64) (.pair (.int .i64) (.pair bO .unit)))
abbrev jP:Ty:=(.pair (.int .i64) oV)
abbrev mu:Ty:=(.pair (.int .i64) (.pair (.int .i64) jP))
abbrev fZ:Ty:=(.pair (.int .i64) (.pair (.slice gP) df))
abbrev dR:Ty:=(.pair (.int .i64) (.pair (.int .i64) (.pair (.slice oV) (.pair (.int .i64) .unit))))
abbrev aq:Ty:=(.pair (.slice df) jP)
abbrev aB:Ty:=(.pair (.slice gP) (.pair (.slice df) (.pair (.slice fU) (.pair (.slice fU) (.pair (.slice (.int .i64)) (.pair (.slice jP) .unit))))))
abbrev kW:Ty:=(.pair (.int .i64) (.pair (.int .i64) (.pair (.int .i64) (.pair (.int .i64) (.pair (.slice df) (.pair (.slice fZ) (.pair (.slice df) (.pair (.slice (.int .i64)) (.pair (.slice gP) (.pair (.slice gP) .unit))))))))))
abbrev cF:Ty:=(.pair (.int .i64) (.pair (.int .i64) (.pair aB (.pair kW (.pair dR .unit)))))
abbrev QV:=Ty.den pS
abbrev QW:=List (Ty.den pS)
abbrev Gp:=Ty.den g5
abbrev Gq:=List (Ty.den g5)
abbrev OC:=Ty.den gP
abbrev ax:=List (Ty.den gP)
abbrev bH:=Ty.den eK
abbrev g6:=List (Ty.den eK)
abbrev av:=Ty.den bO
abbrev kT:=List (Ty.den bO)
abbrev aM:=Ty.den dv
abbrev akW:=List (Ty.den dv)
abbrev cy:=Ty.den fU
abbrev aj:=List (Ty.den fU)
abbrev QX:=Ty.den pT
abbrev QY:=List (Ty.den pT)
abbrev bR:=Ty.den df
abbrev aE:=List (Ty.den df)
abbrev pE:=Ty.den wa
abbrev cI:=List (Ty.den wa)
abbrev uT:=Ty.den oV
abbrev bc:=List (Ty.den oV)
abbrev ZT:=Ty.den nr
abbrev bk:=List (Ty.den nr)
abbrev fM:=Ty.den jP
abbrev a6:=List (Ty.den jP)
abbrev fA:=Ty.den mu
abbrev fO:=List (Ty.den mu)
abbrev fV:=Ty.den fZ
abbrev aX:=List (Ty.den fZ)
abbrev cV:=Ty.den dR
abbrev afw:=List (Ty.den dR)
abbrev ae:=Ty.den aq
abbrev afx:=List (Ty.den aq)
abbrev ah:=Ty.den aB
abbrev akX:=List (Ty.den aB)
abbrev adC:=Ty.den kW
abbrev adD:=List (Ty.den kW)
abbrev aO:=Ty.den cF
abbrev aja:=List (Ty.den cF)
def F86(N:Nat):Option (ae×ah):=
 some (([((0:Int),((100:Int),cc))],((0:Int),((0:Int),((0:Int),((0:Int),((1:Int),((0:Int),()))))))),([((1:Int),((1:Int),()))],([((1:Int),((1:Int),((1:Int),((0:Int),())))),((2:Int),((1:Int),((2:Int),((0:Int),())))),((3:Int),((1:Int),((2:Int),((0:Int),()))))],(bp,([((0:Int),((0:Int),((3:Int),()))),((1:Int),((0:Int),((-4:Int),()))),((2:Int),((0:Int),((-2:Int),()))),((3:Int),((0:Int),((3:Int),())))],([(100:Int)],(c9,())))))))
def xA(N:Nat)(a0:Int)(a1:Int)(a2:Int):Option (Bool):=
 cond (bV a1 a0) (some (bV a0 a2)) (some false)
abbrev xB.aW:=ae→aE→Int→Int→Option (Bool)
def xB.cn(N:Nat)(bt:xB.aW)(x1:ae)(aI:aE)(aL:Int)(bo:Int):Option (Bool):=
 cond (aH bo aL) (cond (aJ bo (List.length aI)) ((xA N ((List.getD aI bo.toNat aN).1) (0:Int) (3:Int)).bind fun r3=>cond (!r3) (some false) ((xA N (((List.getD aI bo.toNat aN).2).1) (1:Int) (1000000000000:Int)).bind fun r4=>cond (!r4) (some false) ((xA N ((((List.getD aI bo.toNat aN).2).2).1) (0:Int) (1000000000:Int)).bind fun r5=>cond (!r5) (some false) ((xA N (((((List.getD aI bo.toNat aN).2).2).2).1) (0:Int) (1000000000:Int)).bind fun r6=>cond (!r6) (some false) (bt x1 aI aL (W .i64 (bo+1))))))) (none)) (cond (bV 0 x1.2.1) ((xA N x1.2.2.1 (0:Int) (4:Int)).bind fun r8=>cond (r8) ((xA N x1.2.2.2.1 (0:Int) (1000000:Int)).bind fun r9=>cond (r9) ((xA N x1.2.2.2.2.1 (0:Int) (1000000:Int)).bind fun jK=>cond (jK) ((xA N x1.2.2.2.2.2.1 (1:Int) (4611686018427387904:Int)).bind fun kZ=>cond (kZ) (some (bV 0 x1.2.2.2.2.2.2.1)) (some false)) (some false)) (some false)) (some false)) (some false))
def xB.l4(N:Nat):Nat→xB.aW
 |0,_,_,_,_=>none
 |n+1,x1,aI,aL,bo=>xB.cn N (xB.l4 N n) x1 aI aL bo
def xB.b(N:Nat)(cW:xB.aW)(a0:ae):Option (Bool):=
 (xA N (List.length a0.1:Int) (1:Int) (6:Int)).bind fun r1=>cond (!r1) (some false) (cW a0 a0.1 (List.length a0.1:Int) (0:Int))
def xB(N:Nat)(a0:ae):Option (Bool):=xB.b N (xB.l4 N N) a0
abbrev kJ.bW:=ax→ax→Int→Int→Option (Bool)
def kJ.eu(N:Nat)(c0:kJ.bW)(x0:ax)(x5:ax)(x6:Int)(x7:Int):Option (Bool):=
 cond (aH x7 x6) (cond (aJ x7 (List.length x5)) (cond (aH ((List.getD x5 x7.toNat cc).1) (1:Int)) (some false) (cond (aH 12 ((List.getD x5 x7.toNat cc).1)) (some false) (cond (aH (((List.getD x5 x7.toNat cc).2).1) (1:Int)) (some false) (cond (aH 4 (((List.getD x5 x7.toNat cc).2).1)) (some false) (cond (aH 0 x7) (let v2:Int:=W .i64 (x7-1);cond (aJ v2 (List.length x0)) (cond (bV ((List.getD x5 x7.toNat cc).1) ((List.getD x0 v2.toNat cc).1)) (some false) (c0 x0 x5 x6 (W .i64 (x7+1)))) (none)) (c0 x0 x5 x6 (W .i64 (x7+1)))))))) (none)) (some true)
def kJ.l2(N:Nat):Nat→kJ.bW
 |0,_,_,_,_=>none
 |n+1,x0,x5,x6,x7=>kJ.eu N (kJ.l2 N n) x0 x5 x6 x7
def kJ.b(N:Nat)(fB:kJ.bW)(a0:ax):Option (Bool):=
 fB a0 a0 (List.length a0:Int) (0:Int)
def kJ(N:Nat)(a0:ax):Option (Bool):=kJ.b N (kJ.l2 N N) a0
abbrev jf.ch:=aE→(List (Bool))→aE→Int→Int→Option (Bool)
def jf.g7(N:Nat)(bU:jf.ch)(x0:aE)(x3:List (Bool))(x6:aE)(x7:Int)(x8:Int):Option (Bool):=
 cond (aH x8 x7) (cond (aJ x8 (List.length x6)) (cond (aH ((List.getD x6 x8.toNat aN).1) (1:Int)) (some false) (cond (aH 24 ((List.getD x6 x8.toNat aN).1)) (some false) (cond (aH (((List.getD x6 x8.toNat aN).2).1) (1:Int)) (some false) (cond (aH 12 (((List.getD x6 x8.toNat aN).2).1)) (some false) (cond (!az ((((List.getD x6 x8.toNat aN).2).2).1) (1:Int)) (cond (!az ((((List.getD x6 x8.toNat aN).2).2).1) (2:Int)) (some false) (cond (aH (((((List.getD x6 x8.toNat aN).2).2).2).1) (0:Int)) (some false) (cond (aH 1000000000000 (((((List.getD x6 x8.toNat aN).2).2).2).1)) (some false) (cond (aH 0 x8) (let v2:Int:=W .i64 (x8-1);cond (aJ v2 (List.length x0)) (cond (bV ((List.getD x6 x8.toNat aN).1) ((List.getD x0 v2.toNat aN).1)) (some false) (cond (az ((((List.getD x6 x8.toNat aN).2).2).1) (1:Int)) (cond (aJ (((List.getD x6 x8.toNat aN).2).1) 13) (cond (List.getD x3 (((List.getD x6 x8.toNat aN).2).1).toNat false) (some false) (cond (aJ (((List.getD x6 x8.toNat aN).2).1) 13) (bU x0 (List.set x3 (((List.getD x6 x8.toNat aN).2).1).toNat true) x6 x7 (W .i64 (x8+1))) (none))) (none)) (bU x0 x3 x6 x7 (W .i64 (x8+1))))) (none)) (cond (az ((((List.getD x6 x8.toNat aN).2).2).1) (1:Int)) (cond (aJ (((List.getD x6 x8.toNat aN).2).1) 13) (cond (List.getD x3 (((List.getD x6 x8.toNat aN).2).1).toNat false) (some false) (cond (aJ (((List.getD x6 x8.toNat aN).2).1) 13) (bU x0 (List.set x3 (((List.getD x6 x8.toNat aN).2).1).toNat true) x6 x7 (W .i64 (x8+1))) (none))) (none)) (bU x0 x3 x6 x7 (W .i64 (x8+1)))))))) (cond (aH (((((List.getD x6 x8.toNat aN).2).2).2).1) (0:Int)) (some false) (cond (aH 1000000000000 (((((List.getD x6 x8.toNat aN).2).2).2).1)) (some false) (cond (aH 0 x8) (let v7:Int:=W .i64 (x8-1);cond (aJ v7 (List.length x0)) (cond (bV ((List.getD x6 x8.toNat aN).1) ((List.getD x0 v7.toNat aN).1)) (some false) (cond (az ((((List.getD x6 x8.toNat aN).2).2).1) (1:Int)) (cond (aJ (((List.getD x6 x8.toNat aN).2).1) 13) (cond (List.getD x3 (((List.getD x6 x8.toNat aN).2).1).toNat false) (some false) (cond (aJ (((List.getD x6 x8.toNat aN).2).1) 13) (bU x0 (List.set x3 (((List.getD x6 x8.toNat aN).2).1).toNat true) x6 x7 (W .i64 (x8+1))) (none))) (none)) (bU x0 x3 x6 x7 (W .i64 (x8+1))))) (none)) (cond (az ((((List.getD x6 x8.toNat aN).2).2).1) (1:Int)) (cond (aJ (((List.getD x6 x8.toNat aN).2).1) 13) (cond (List.getD x3 (((List.getD x6 x8.toNat aN).2).1).toNat false) (some false) (cond (aJ (((List.getD x6 x8.toNat aN).2).1) 13) (bU x0 (List.set x3 (((List.getD x6 x8.toNat aN).2).1).toNat true) x6 x7 (W .i64 (x8+1))) (none))) (none)) (bU x0 x3 x6 x7 (W .i64 (x8+1)))))))))))) (none)) (some true)
def jf.l3(N:Nat):Nat→jf.ch
 |0,_,_,_,_,_=>none
 |n+1,x0,x3,x6,x7,x8=>jf.g7 N (jf.l3 N n) x0 x3 x6 x7 x8
def jf.b(N:Nat)(iN:jf.ch)(a0:aE):Option (Bool):=
 iN a0 (List.replicate 13 false) a0 (List.length a0:Int) (0:Int)
def jf(N:Nat)(a0:aE):Option (Bool):=jf.b N (jf.l3 N N) a0
abbrev vl.aW:=Int→ax→Int→Int→Option (Int)
def vl.cn(N:Nat)(bt:vl.aW)(x1:Int)(aQ:ax)(aI:Int)(aL:Int):Option (Int):=
 cond (aH aL aI) (cond (aJ aL (List.length aQ)) (cond (az ((List.getD aQ aL.toNat cc).1) x1) (some (((List.getD aQ aL.toNat cc).2).1)) (bt x1 aQ aI (W .i64 (aL+1)))) (none)) (some (0:Int))
def vl.l4(N:Nat):Nat→vl.aW
 |0,_,_,_,_=>none
 |n+1,x1,aQ,aI,aL=>vl.cn N (vl.l4 N n) x1 aQ aI aL
def vl.b(N:Nat)(cW:vl.aW)(a0:ax)(a1:Int):Option (Int):=
 (kJ N a0).bind fun r1=>cond (!r1) (some (0:Int)) (cW a1 a0 (List.length a0:Int) (0:Int))
def vl(N:Nat)(a0:ax)(a1:Int):Option (Int):=vl.b N (vl.l4 N N) a0 a1
abbrev xE.aW:=ax→aE→Int→Int→Option (Bool)
def xE.cn(N:Nat)(bt:xE.aW)(x0:ax)(bX:aE)(cM:Int)(cY:Int):Option (Bool):=
 cond (aH cY cM) (cond (aJ cY (List.length bX)) ((vl N x0 (((List.getD bX cY.toNat aN).2).1)).bind fun r4=>cond (az r4 0) (some false) (bt x0 bX cM (W .i64 (cY+1)))) (none)) (some true)
def xE.l4(N:Nat):Nat→xE.aW
 |0,_,_,_,_=>none
 |n+1,x0,bX,cM,cY=>xE.cn N (xE.l4 N n) x0 bX cM cY
def xE.b(N:Nat)(cW:xE.aW)(a0:ax)(a1:aE):Option (Bool):=
 (kJ N a0).bind fun r1=>cond (!r1) (some false) ((jf N a1).bind fun r2=>cond (!r2) (some false) (cW a0 a1 (List.length a1:Int) (0:Int)))
def xE(N:Nat)(a0:ax)(a1:aE):Option (Bool):=xE.b N (xE.l4 N N) a0 a1
def II(N:Nat)(a0:Int)(a1:Int):Option (Bool):=
 cond (az a0 1) (some (az a1 0)) (cond (az a0 2) (some (az a1 0)) (cond (az a0 3) (some (az a1 0)) (cond (az a0 4) (some (az a1 0)) (cond (az a0 5) (cond (bV 1 a1) (some (bV a1 24)) (some false)) (cond (az a0 6) (cond (bV 1 a1) (some (bV a1 12)) (some false)) (cond (az a0 7) (cond (bV 1 a1) (some (bV a1 12)) (some false)) (some false)))))))
def IK(N:Nat)(a0:Int)(a1:Int)(a2:cy):Option (Int):=
 cond (!az a0 a2.1) (some (W .i64 (a0-a2.1))) (some (W .i64 (a1-a2.2.1)))
abbrev vI.bW:=aj→aj→Int→Int→Option (Bool)
def vI.eu(N:Nat)(c0:vI.bW)(x0:aj)(x5:aj)(x6:Int)(x7:Int):Option (Bool):=
 cond (aH x7 x6) (cond (aJ x7 (List.length x5)) ((II N ((List.getD x5 x7.toNat aS).1) (((List.getD x5 x7.toNat aS).2).1)).bind fun r2=>cond (!r2) (some false) (cond (az ((((List.getD x5 x7.toNat aS).2).2).1) (0:Int)) (some false) (cond (aH 0 x7) (let v3:Int:=W .i64 (x7-1);cond (aJ v3 (List.length x0)) ((IK N ((List.getD x5 x7.toNat aS).1) (((List.getD x5 x7.toNat aS).2).1) (List.getD x0 v3.toNat aS)).bind fun r4=>cond (bV r4 0) (some false) (c0 x0 x5 x6 (W .i64 (x7+1)))) (none)) (c0 x0 x5 x6 (W .i64 (x7+1)))))) (none)) (some true)
def vI.l2(N:Nat):Nat→vI.bW
 |0,_,_,_,_=>none
 |n+1,x0,x5,x6,x7=>vI.eu N (vI.l2 N n) x0 x5 x6 x7
def vI.b(N:Nat)(fB:vI.bW)(a0:aj):Option (Bool):=
 fB a0 a0 (List.length a0:Int) (0:Int)
def vI(N:Nat)(a0:aj):Option (Bool):=vI.b N (vI.l2 N N) a0
def R5(N:Nat)(a0:Int):Option bH:=
 cond (aH 63 0) (none) (some ((shr .i64 a0 63),((W .u64 a0),())))
abbrev jt.ch:=bH→Int→Int→Int→g6→Int→Int→Option (bH×(Bool))
def jt.g7(N:Nat)(bU:jt.ch)(x2:bH)(x4:Int)(x5:Int)(x6:Int)(aQ:g6)(aI:Int)(aL:Int):Option (bH×(Bool)):=
 cond (aH aL aI) (cond (aJ aL (List.length aQ)) ((pX N x6 (((List.getD aQ aL.toNat cc).2).1) (0:Int)).bind fun r2=>(pX N x5 (W .u64 ((List.getD aQ aL.toNat cc).1)) r2.2).bind fun r4=>cond (aH 63 0) (none) (bU x2 (W .i64 ((W .i64 (x4+(shr .i64 ((List.getD aQ aL.toNat cc).1) (63:Int))))+(W .i64 r4.2))) r4.1 r2.1 aQ aI (W .i64 (aL+1)))) (none)) (cond (aH 63 0) (none) (cond (!az x4 (shr .i64 (W .i64 x5) 63)) (some (cc,false)) (some (((W .i64 x5),(x6,())),true))))
def jt.l3(N:Nat):Nat→jt.ch
 |0,_,_,_,_,_,_,_=>none
 |n+1,x2,x4,x5,x6,aQ,aI,aL=>jt.g7 N (jt.l3 N n) x2 x4 x5 x6 aQ aI aL
def jt.b(N:Nat)(iN:jt.ch)(a0:g6):Option (bH×(Bool)):=
 iN cc (0:Int) (0:Int) (0:Int) a0 (List.length a0:Int) (0:Int)
def jt(N:Nat)(a0:g6):Option (bH×(Bool)):=jt.b N (jt.l3 N N) a0
abbrev wV.bl:=bH→g6→aj→Int→Int→Option bH
def wV.dq(N:Nat)(bf:wV.bl)(x2:bH)(x3:g6)(aL:aj)(bo:Int)(bn:Int):Option bH:=
 cond (aH bn bo) (cond (aJ bn (List.length aL)) ((R5 N ((((List.getD aL bn.toNat aS).2).2).1)).bind fun r3=>cond (small (List.length x3+List.length ([r3]))) (bf x2 (x3++([r3])) aL bo (W .i64 (bn+1))) (none)) (none)) ((jt N x3).bind fun r6=>some r6.1)
def wV.l5(N:Nat):Nat→wV.bl
 |0,_,_,_,_,_=>none
 |n+1,x2,x3,aL,bo,bn=>wV.dq N (wV.l5 N n) x2 x3 aL bo bn
def wV.b(N:Nat)(dL:wV.bl)(a0:aj):Option bH:=
 (vI N a0).bind fun r1=>cond (!r1) (some cc) (dL cc ([]) a0 (List.length a0:Int) (0:Int))
def wV(N:Nat)(a0:aj):Option bH:=wV.b N (wV.l5 N N) a0
def Sd(N:Nat)(a0:bH)(a1:bH):Option (Int):=
 cond (aH a0.1 a1.1) (some (-1:Int)) (cond (az a0.1 a1.1) (cond (aH a0.2.1 a1.2.1) (some (-1:Int)) (cond (la (.pair (.int .i64) (.pair (.int .u64) .unit)) a0 a1) (some (0:Int)) (some (1:Int)))) (cond (la (.pair (.int .i64) (.pair (.int .u64) .unit)) a0 a1) (some (0:Int)) (some (1:Int))))
def ZO(N:Nat)(a0:bH):Option (Int):=
 (Sd N a0 cc).bind fun r1=>some r1
def OB(N:Nat)(a0:Int)(a1:Int):Option (Bool):=
 cond (bV 0 a0) (cond (bV a0 24) (cond (bV 0 a1) (some (aH a1 6)) (some false)) (some false)) (some false)
def LV(N:Nat)(a0:Int):Option (Bool):=
 some (!az a0 (-9223372036854775808))
def LS(N:Nat)(a0:Int)(a1:Int)(a2:cy):Option (Int):=
 cond (!az a0 a2.1) (some (W .i64 (a0-a2.1))) (some (W .i64 (a1-a2.2.1)))
abbrev jM.bW:=aj→aj→Int→Int→Option (Bool)
def jM.eu(N:Nat)(c0:jM.bW)(x0:aj)(x5:aj)(x6:Int)(x7:Int):Option (Bool):=
 cond (aH x7 x6) (cond (aJ x7 (List.length x5)) ((OB N ((List.getD x5 x7.toNat aS).1) (((List.getD x5 x7.toNat aS).2).1)).bind fun r2=>cond (!r2) (some false) (cond (az ((((List.getD x5 x7.toNat aS).2).2).1) (0:Int)) (some false) ((LV N ((((List.getD x5 x7.toNat aS).2).2).1)).bind fun r3=>cond (!r3) (some false) (cond (aH 0 x7) (let v4:Int:=W .i64 (x7-1);cond (aJ v4 (List.length x0)) ((LS N ((List.getD x5 x7.toNat aS).1) (((List.getD x5 x7.toNat aS).2).1) (List.getD x0 v4.toNat aS)).bind fun r5=>cond (bV r5 0) (some false) (c0 x0 x5 x6 (W .i64 (x7+1)))) (none)) (c0 x0 x5 x6 (W .i64 (x7+1))))))) (none)) (some true)
def jM.l2(N:Nat):Nat→jM.bW
 |0,_,_,_,_=>none
 |n+1,x0,x5,x6,x7=>jM.eu N (jM.l2 N n) x0 x5 x6 x7
def jM.b(N:Nat)(fB:jM.bW)(a0:aj):Option (Bool):=
 fB a0 a0 (List.length a0:Int) (0:Int)
def jM(N:Nat)(a0:aj):Option (Bool):=jM.b N (jM.l2 N N) a0
abbrev kM.bl:=Int→bH→g6→aj→Int→Int→Option bH
def kM.dq(N:Nat)(bf:kM.bl)(x1:Int)(x4:bH)(x5:g6)(bn:aj)(bX:Int)(cM:Int):Option bH:=
 cond (aH cM bX) (cond (aJ cM (List.length bn)) (cond (az (((List.getD bn cM.toNat aS).2).1) x1) ((R5 N ((((List.getD bn cM.toNat aS).2).2).1)).bind fun r3=>cond (small (List.length x5+List.length ([r3]))) (bf x1 x4 (x5++([r3])) bn bX (W .i64 (cM+1))) (none)) (bf x1 x4 x5 bn bX (W .i64 (cM+1)))) (none)) ((jt N x5).bind fun r7=>some r7.1)
def kM.l5(N:Nat):Nat→kM.bl
 |0,_,_,_,_,_,_=>none
 |n+1,x1,x4,x5,bn,bX,cM=>kM.dq N (kM.l5 N n) x1 x4 x5 bn bX cM
def kM.b(N:Nat)(dL:kM.bl)(a0:aj)(a1:Int):Option bH:=
 (jM N a0).bind fun r1=>cond (!r1) (some cc) (dL a1 cc ([]) a0 (List.length a0:Int) (0:Int))
def kM(N:Nat)(a0:aj)(a1:Int):Option bH:=kM.b N (kM.l5 N N) a0 a1
abbrev xF.bW:=aj→Int→Option (Bool)
def xF.eu(N:Nat)(c0:xF.bW)(x0:aj)(x4:Int):Option (Bool):=
 cond (aH x4 6) ((kM N x0 x4).bind fun r2=>(ZO N r2).bind fun r3=>cond (!az r3 0) (some false) (c0 x0 (W .i64 (x4+1)))) ((jM N x0).bind fun r5=>some r5)
def xF.l2(N:Nat):Nat→xF.bW
 |0,_,_=>none
 |n+1,x0,x4=>xF.eu N (xF.l2 N n) x0 x4
def xF.b(N:Nat)(fB:xF.bW)(a0:aj):Option (Bool):=
 fB a0 (0:Int)
def xF(N:Nat)(a0:aj):Option (Bool):=xF.b N (xF.l2 N N) a0
def R9(N:Nat)(a0:fM):Option (Bool):=
 cond (bV 1 a0.1) (cond (bV a0.1 1099511627776) (cond (bV 1 a0.2.1) (cond (bV a0.2.1 24) (cond (bV 0 a0.2.2.1) (cond (aH a0.2.2.1 6) (cond (az a0.2.2.2.1 1) (cond (bV 1 a0.2.2.2.2.1) (cond (bV a0.2.2.2.2.1 1000000000) (cond (bV 1 a0.2.2.2.2.2.1) (some (bV a0.2.2.2.2.2.1 1000000000000)) (some false)) (some false)) (some false)) (cond (az a0.2.2.2.1 2) (cond (bV 1 a0.2.2.2.2.1) (cond (bV a0.2.2.2.2.1 1000000000) (cond (bV 1 a0.2.2.2.2.2.1) (some (bV a0.2.2.2.2.2.1 1000000000000)) (some false)) (some false)) (some false)) (some false))) (some false)) (some false)) (some false)) (some false)) (some false)) (some false)
abbrev xD.bW:=a6→a6→Int→Int→Option (Bool)
def xD.eu(N:Nat)(c0:xD.bW)(x0:a6)(x5:a6)(x6:Int)(x7:Int):Option (Bool):=
 cond (aH x7 x6) (cond (aJ x7 (List.length x5)) ((R9 N (List.getD x5 x7.toNat eB)).bind fun r2=>cond (!r2) (some false) (cond (aH 0 x7) (let v3:Int:=W .i64 (x7-1);cond (aJ v3 (List.length x0)) (cond (bV ((List.getD x5 x7.toNat eB).1) ((List.getD x0 v3.toNat eB).1)) (some false) (c0 x0 x5 x6 (W .i64 (x7+1)))) (none)) (c0 x0 x5 x6 (W .i64 (x7+1))))) (none)) (some (bV (List.length x0:Int) 32))
def xD.l2(N:Nat):Nat→xD.bW
 |0,_,_,_,_=>none
 |n+1,x0,x5,x6,x7=>xD.eu N (xD.l2 N n) x0 x5 x6 x7
def xD.b(N:Nat)(fB:xD.bW)(a0:a6):Option (Bool):=
 fB a0 a0 (List.length a0:Int) (0:Int)
def xD(N:Nat)(a0:a6):Option (Bool):=xD.b N (xD.l2 N N) a0
abbrev kK.aW:=Int→bR→aE→Int→Int→Option (bR×(Bool))
def kK.cn(N:Nat)(bt:kK.aW)(x1:Int)(x4:bR)(aL:aE)(bo:Int)(bn:Int):Option (bR×(Bool)):=
 cond (aH bn bo) (cond (aJ bn (List.length aL)) (cond (az ((List.getD aL bn.toNat aN).1) x1) (some (List.getD aL bn.toNat aN,true)) (bt x1 x4 aL bo (W .i64 (bn+1)))) (none)) (some (aN,false))
def kK.l4(N:Nat):Nat→kK.aW
 |0,_,_,_,_,_=>none
 |n+1,x1,x4,aL,bo,bn=>kK.cn N (kK.l4 N n) x1 x4 aL bo bn
def kK.b(N:Nat)(cW:kK.aW)(a0:aE)(a1:Int):Option (bR×(Bool)):=
 (jf N a0).bind fun r1=>cond (!r1) (some (aN,false)) (cW a1 aN a0 (List.length a0:Int) (0:Int))
def kK(N:Nat)(a0:aE)(a1:Int):Option (bR×(Bool)):=kK.b N (kK.l4 N N) a0 a1
def F82(N:Nat)(a0:ah)(a1:Int):Option (Bool):=
 (kK N a0.2.1 a1).bind fun r1=>some r1.2
def F85(N:Nat)(a0:Int):Option (Bool):=
 cond (bV 1 a0) (some (bV a0 1000000000000)) (some false)
def F84(N:Nat)(a0:Int):Option (Bool):=
 (F85 N a0).bind fun r1=>some (!r1)
abbrev nI.bW:=(List (Int))→Unit→Int→Int→Option (Int)
def nI.eu(N:Nat)(c0:nI.bW)(x0:List (Int))(x1:Unit)(x7:Int)(x8:Int):Option (Int):=
 cond (aH x8 x7) (cond (aJ x8 (List.length x0)) ((F84 N (List.getD x0 x8.toNat (0:Int))).bind fun r2=>cond (r2) (some x8) (c0 x0 () x7 (W .i64 (x8+1)))) (none)) (some (-1:Int))
def nI.l2(N:Nat):Nat→nI.bW
 |0,_,_,_,_=>none
 |n+1,x0,x1,x7,x8=>nI.eu N (nI.l2 N n) x0 x1 x7 x8
def nI.b(N:Nat)(fB:nI.bW)(a0:List (Int))(a1:Unit):Option (Int):=
 fB a0 () (List.length a0:Int) (0:Int)
def nI(N:Nat)(a0:List (Int))(a1:Unit):Option (Int):=nI.b N (nI.l2 N N) a0 a1
def F83(N:Nat)(a0:List (Int))(a1:Unit):Option (Bool):=
 (nI N a0 ()).bind fun r1=>some (bV 0 r1)
abbrev ik.ns:=ae→ah→a6→Int→Int→Option (Bool)
abbrev ik.iV:=ae→ah→aj→Int→Int→Option (Bool)
abbrev ik.aW:=ae→ah→aj→Int→Int→Option (Bool)
def ik.qY(N:Nat)(Aa:ik.ns)(x2:ae)(x3:ah)(nJ:a6)(Tj:Int)(Jv:Int):Option (Bool):=
 cond (aH Jv Tj) (cond (aJ Jv (List.length nJ)) ((F82 N x3 (((List.getD nJ Jv.toNat eB).2).1)).bind fun H9=>cond (!H9) (some false) (cond (bV (List.length x2.1:Int) ((((List.getD nJ Jv.toNat eB).2).2).1)) (some false) (Aa x2 x3 nJ Tj (W .i64 (Jv+1))))) (none)) ((F83 N x3.2.2.2.2.1 ()).bind fun Ab=>some (!Ab))
def ik.sv(N:Nat):Nat→ik.ns
 |0,_,_,_,_,_=>none
 |n+1,x2,x3,nJ,Tj,Jv=>ik.qY N (ik.sv N n) x2 x3 nJ Tj Jv
def ik.qX(N:Nat)(Ac:ik.ns)(jU:ik.iV)(x2:ae)(x3:ah)(Tk:aj)(P9:Int)(Jw:Int):Option (Bool):=
 cond (aH Jw P9) (cond (aJ Jw (List.length Tk)) (cond (!az ((List.getD Tk Jw.toNat aS).1) (0:Int)) ((F82 N x3 ((List.getD Tk Jw.toNat aS).1)).bind fun vo=>cond (!vo) (some false) (cond (bV (List.length x2.1:Int) (((List.getD Tk Jw.toNat aS).2).1)) (some false) (jU x2 x3 Tk P9 (W .i64 (Jw+1))))) (cond (bV (List.length x2.1:Int) (((List.getD Tk Jw.toNat aS).2).1)) (some false) (jU x2 x3 Tk P9 (W .i64 (Jw+1))))) (none)) (Ac x2 x3 x3.2.2.2.2.2.1 (List.length x3.2.2.2.2.2.1:Int) (0:Int))
def ik.su(N:Nat):Nat→ik.iV
 |0,_,_,_,_,_=>none
 |n+1,x2,x3,Tk,P9,Jw=>ik.qX N (ik.sv N N) (ik.su N n) x2 x3 Tk P9 Jw
def ik.cn(N:Nat)(Ad:ik.iV)(bt:ik.aW)(x2:ae)(x3:ah)(MQ:aj)(x58:Int)(KU:Int):Option (Bool):=
 cond (aH KU x58) (cond (aJ KU (List.length MQ)) (cond (az ((List.getD MQ KU.toNat aS).1) (5:Int)) ((F82 N x3 (((List.getD MQ KU.toNat aS).2).1)).bind fun r9=>cond (!r9) (some false) (bt x2 x3 MQ x58 (W .i64 (KU+1)))) (cond (az ((List.getD MQ KU.toNat aS).1) (6:Int)) ((vl N x3.1 (((List.getD MQ KU.toNat aS).2).1)).bind fun kZ=>cond (az kZ 0) (some false) (bt x2 x3 MQ x58 (W .i64 (KU+1)))) (cond (az ((List.getD MQ KU.toNat aS).1) (7:Int)) ((vl N x3.1 (((List.getD MQ KU.toNat aS).2).1)).bind fun nK=>cond (az nK 0) (some false) (bt x2 x3 MQ x58 (W .i64 (KU+1)))) (bt x2 x3 MQ x58 (W .i64 (KU+1)))))) (none)) (Ad x2 x3 x3.2.2.2.1 (List.length x3.2.2.2.1:Int) (0:Int))
def ik.l4(N:Nat):Nat→ik.aW
 |0,_,_,_,_,_=>none
 |n+1,x2,x3,MQ,x58,KU=>ik.cn N (ik.su N N) (ik.l4 N n) x2 x3 MQ x58 KU
def ik.b(N:Nat)(cW:ik.aW)(a0:ae)(a1:ah):Option (Bool):=
 (xB N a0).bind fun r1=>cond (!r1) (some false) ((xE N a1.1 a1.2.1).bind fun r2=>cond (!r2) (some false) ((vI N a1.2.2.1).bind fun r3=>cond (!r3) (some false) ((wV N a1.2.2.1).bind fun r4=>(ZO N r4).bind fun r5=>cond (!az r5 0) (some false) ((xF N a1.2.2.2.1).bind fun r6=>cond (!r6) (some false) ((xD N a1.2.2.2.2.2.1).bind fun r7=>cond (!r7) (some false) (cond (!az (List.length a1.2.2.2.2.1:Int) (List.length a0.1:Int)) (some false) (cW a0 a1 a1.2.2.1 (List.length a1.2.2.1:Int) (0:Int))))))))
def ik(N:Nat)(a0:ae)(a1:ah):Option (Bool):=ik.b N (ik.l4 N N) a0 a1
abbrev xL.aW:=Int→Int→aj→Int→Int→Option (Int)
def xL.cn(N:Nat)(bt:xL.aW)(x1:Int)(x2:Int)(aL:aj)(bo:Int)(bn:Int):Option (Int):=
 cond (aH bn bo) (cond (aJ bn (List.length aL)) (cond (az ((List.getD aL bn.toNat aS).1) x1) (cond (az (((List.getD aL bn.toNat aS).2).1) x2) (some ((((List.getD aL bn.toNat aS).2).2).1)) (bt x1 x2 aL bo (W .i64 (bn+1)))) (bt x1 x2 aL bo (W .i64 (bn+1)))) (none)) (some (0:Int))
def xL.l4(N:Nat):Nat→xL.aW
 |0,_,_,_,_,_=>none
 |n+1,x1,x2,aL,bo,bn=>xL.cn N (xL.l4 N n) x1 x2 aL bo bn
def xL.b(N:Nat)(cW:xL.aW)(a0:aj)(a1:Int)(a2:Int):Option (Int):=
 (jM N a0).bind fun r1=>cond (!r1) (some (0:Int)) (cW a1 a2 a0 (List.length a0:Int) (0:Int))
def xL(N:Nat)(a0:aj)(a1:Int)(a2:Int):Option (Int):=xL.b N (xL.l4 N N) a0 a1 a2
def ZK(N:Nat)(a0:Int):Option (Int):=
 cond (aH a0 0) (some (W .u64 (0-(W .u64 a0)))) (some (W .u64 a0))
def ZX(N:Nat)(a0:Int):Option (Bool):=
 some (aH a0 0)
abbrev gW.bW:=(List (Int))→Unit→Int→Int→Option (Int)
def gW.eu(N:Nat)(c0:gW.bW)(x0:List (Int))(x1:Unit)(x7:Int)(x8:Int):Option (Int):=
 cond (aH x8 x7) (cond (aJ x8 (List.length x0)) ((ZX N (List.getD x0 x8.toNat (0:Int))).bind fun r2=>cond (r2) (some x8) (c0 x0 () x7 (W .i64 (x8+1)))) (none)) (some (-1:Int))
def gW.l2(N:Nat):Nat→gW.bW
 |0,_,_,_,_=>none
 |n+1,x0,x1,x7,x8=>gW.eu N (gW.l2 N n) x0 x1 x7 x8
def gW.b(N:Nat)(fB:gW.bW)(a0:List (Int))(a1:Unit):Option (Int):=
 fB a0 () (List.length a0:Int) (0:Int)
def gW(N:Nat)(a0:List (Int))(a1:Unit):Option (Int):=gW.b N (gW.l2 N N) a0 a1
def ZY(N:Nat)(a0:List (Int))(a1:Unit):Option (Bool):=
 (gW N a0 ()).bind fun r1=>some (bV 0 r1)
def Mk(N:Nat)(a0:List (Int)):Option (Bool):=
 cond (bV (List.length a0:Int) 64) ((ZY N a0 ()).bind fun r1=>some (!r1)) (some false)
abbrev lP.ch:=Int→Int→(List (Int))→Int→Int→Option ((Int)×(Bool))
def lP.g7(N:Nat)(bU:lP.ch)(x4:Int)(x5:Int)(aQ:List (Int))(aI:Int)(aL:Int):Option ((Int)×(Bool)):=
 cond (aH aL aI) (cond (aJ aL (List.length aQ)) ((pX N x5 (W .u64 (List.getD aQ aL.toNat (0:Int))) (0:Int)).bind fun r3=>cond (aH 63 0) (none) (bU (W .i64 ((W .i64 (x4+(shr .i64 (List.getD aQ aL.toNat (0:Int)) (63:Int))))+(W .i64 r3.2))) r3.1 aQ aI (W .i64 (aL+1)))) (none)) (cond (aH 63 0) (none) (cond (!az x4 (shr .i64 (W .i64 x5) 63)) (some ((0:Int),false)) (some ((W .i64 x5),true))))
def lP.l3(N:Nat):Nat→lP.ch
 |0,_,_,_,_,_=>none
 |n+1,x4,x5,aQ,aI,aL=>lP.g7 N (lP.l3 N n) x4 x5 aQ aI aL
def lP.b(N:Nat)(iN:lP.ch)(a0:List (Int)):Option ((Int)×(Bool)):=
 iN (0:Int) (0:Int) a0 (List.length a0:Int) (0:Int)
def lP(N:Nat)(a0:List (Int)):Option ((Int)×(Bool)):=lP.b N (lP.l3 N N) a0
def RO(N:Nat)(a0:Int)(a1:Int):Option ((Int)×(Int)):=
 let v1:Int:=ja .and .u64 a0 4294967295;cond (aH 32 0) (none) (let v2:Int:=shr .u64 a0 32;let v3:Int:=ja .and .u64 a1 4294967295;cond (aH 32 0) (none) (let v4:Int:=shr .u64 a1 32;cond (aH 32 0) (none) (let v8:Int:=W .u64 ((W .u64 (v2*v3))+(shr .u64 (W .u64 (v1*v3)) (32:Int)));cond (aH 32 0) (none) (cond (aH 32 0) (none) (some ((W .u64 ((W .u64 ((W .u64 (v2*v4))+(shr .u64 v8 32)))+(shr .u64 (W .u64 ((ja .and .u64 v8 4294967295)+(W .u64 (v1*v4)))) (32:Int)))),(W .u64 (a0*a1))))))))
abbrev mQ.Jx:=Int→Int→bH→Option (bH×(Bool))
def mQ.IB(N:Nat)(x1:Int)(x2:Int)(x6:bH):Option (bH×(Bool)):=
 (pY N (0:Int) x2 (0:Int)).bind fun r3=>(pY N (0:Int) x1 r3.2).bind fun r4=>some (((W .i64 r4.1),(r3.1,())),true)
def mQ.j7(N:Nat)(x1:Int)(x2:Int)(x6:bH):Option (bH×(Bool)):=mQ.IB N x1 x2 x6
def mQ.b(N:Nat)(wb:mQ.Jx)(a0:Bool)(a1:Int)(a2:Int):Option (bH×(Bool)):=
 cond (!a0) (cond (bV 9223372036854775808 a1) (some (cc,false)) (some (((W .i64 a1),(a2,())),true))) (cond (aH 9223372036854775808 a1) (some (cc,false)) (cond (az a1 9223372036854775808) (cond (aH 0 a2) (some (cc,false)) (wb a1 a2 cc)) (wb a1 a2 cc)))
def mQ(N:Nat)(a0:Bool)(a1:Int)(a2:Int):Option (bH×(Bool)):=mQ.b N (mQ.j7 N) a0 a1 a2
def R1(N:Nat)(a0:Int)(a1:Int):Option bH:=
 (ZK N a0).bind fun r1=>(ZK N a1).bind fun r2=>(RO N r1 r2).bind fun r3=>(mQ N (!(la .bool (aH a0 0) (aH a1 0))) r3.1 r3.2).bind fun r4=>some r4.1
def R2(N:Nat)(a0:bH):Option ((Int)×(Int)):=
 cond (bV 0 a0.1) (some ((W .u64 a0.1),a0.2.1)) ((pY N (0:Int) a0.2.1 (0:Int)).bind fun r2=>(pY N (0:Int) (W .u64 a0.1) r2.2).bind fun r4=>some (r4.1,r2.1))
abbrev jc.Jx:=Int→Int→Option (Int)
abbrev jc.akY:=Int→Int→Option (Int)
def jc.IB(N:Nat)(x0:Int)(x2:Int):Option (Int):=
 cond (bV 256 x0) (cond (aH 8 0) (none) (let v8:Int:=W .u8 (shr .u64 x0 8);cond (aJ v8 (ByteArray.size (strOf [0,1,2,2,3,3,3,3,4,4,4,4,4,4,4,4,5,5,5,5,5,5,5,5,5,5,5,5,5,5,5,5,6,6,6,6,6,6,6,6,6,6,6,6,6,6,6,6,6,6,6,6,6,6,6,6,6,6,6,6,6,6,6,6,7,7,7,7,7,7,7,7,7,7,7,7,7,7,7,7,7,7,7,7,7,7,7,7,7,7,7,7,7,7,7,7,7,7,7,7,7,7,7,7,7,7,7,7,7,7,7,7,7,7,7,7,7,7,7,7,7,7,7,7,7,7,7,7,8,8,8,8,8,8,8,8,8,8,8,8,8,8,8,8,8,8,8,8,8,8,8,8,8,8,8,8,8,8,8,8,8,8,8,8,8,8,8,8,8,8,8,8,8,8,8,8,8,8,8,8,8,8,8,8,8,8,8,8,8,8,8,8,8,8,8,8,8,8,8,8,8,8,8,8,8,8,8,8,8,8,8,8,8,8,8,8,8,8,8,8,8,8,8,8,8,8,8,8,8,8,8,8,8,8,8,8,8,8,8,8,8,8,8,8,8,8,8,8,8,8,8,8,8,8,8,8]))) (some (W .i64 ((W .i64 (x2+8))+(W .i64 (((strOf [0,1,2,2,3,3,3,3,4,4,4,4,4,4,4,4,5,5,5,5,5,5,5,5,5,5,5,5,5,5,5,5,6,6,6,6,6,6,6,6,6,6,6,6,6,6,6,6,6,6,6,6,6,6,6,6,6,6,6,6,6,6,6,6,7,7,7,7,7,7,7,7,7,7,7,7,7,7,7,7,7,7,7,7,7,7,7,7,7,7,7,7,7,7,7,7,7,7,7,7,7,7,7,7,7,7,7,7,7,7,7,7,7,7,7,7,7,7,7,7,7,7,7,7,7,7,7,7,8,8,8,8,8,8,8,8,8,8,8,8,8,8,8,8,8,8,8,8,8,8,8,8,8,8,8,8,8,8,8,8,8,8,8,8,8,8,8,8,8,8,8,8,8,8,8,8,8,8,8,8,8,8,8,8,8,8,8,8,8,8,8,8,8,8,8,8,8,8,8,8,8,8,8,8,8,8,8,8,8,8,8,8,8,8,8,8,8,8,8,8,8,8,8,8,8,8,8,8,8,8,8,8,8,8,8,8,8,8,8,8,8,8,8,8,8,8,8,8,8,8,8,8,8,8,8,8]).data.getD v8.toNat 0).toNat:Int))))) (none))) (let v11:Int:=W .u8 x0;cond (aJ v11 (ByteArray.size (strOf [0,1,2,2,3,3,3,3,4,4,4,4,4,4,4,4,5,5,5,5,5,5,5,5,5,5,5,5,5,5,5,5,6,6,6,6,6,6,6,6,6,6,6,6,6,6,6,6,6,6,6,6,6,6,6,6,6,6,6,6,6,6,6,6,7,7,7,7,7,7,7,7,7,7,7,7,7,7,7,7,7,7,7,7,7,7,7,7,7,7,7,7,7,7,7,7,7,7,7,7,7,7,7,7,7,7,7,7,7,7,7,7,7,7,7,7,7,7,7,7,7,7,7,7,7,7,7,7,8,8,8,8,8,8,8,8,8,8,8,8,8,8,8,8,8,8,8,8,8,8,8,8,8,8,8,8,8,8,8,8,8,8,8,8,8,8,8,8,8,8,8,8,8,8,8,8,8,8,8,8,8,8,8,8,8,8,8,8,8,8,8,8,8,8,8,8,8,8,8,8,8,8,8,8,8,8,8,8,8,8,8,8,8,8,8,8,8,8,8,8,8,8,8,8,8,8,8,8,8,8,8,8,8,8,8,8,8,8,8,8,8,8,8,8,8,8,8,8,8,8,8,8,8,8,8,8]))) (some (W .i64 (x2+(W .i64 (((strOf [0,1,2,2,3,3,3,3,4,4,4,4,4,4,4,4,5,5,5,5,5,5,5,5,5,5,5,5,5,5,5,5,6,6,6,6,6,6,6,6,6,6,6,6,6,6,6,6,6,6,6,6,6,6,6,6,6,6,6,6,6,6,6,6,7,7,7,7,7,7,7,7,7,7,7,7,7,7,7,7,7,7,7,7,7,7,7,7,7,7,7,7,7,7,7,7,7,7,7,7,7,7,7,7,7,7,7,7,7,7,7,7,7,7,7,7,7,7,7,7,7,7,7,7,7,7,7,7,8,8,8,8,8,8,8,8,8,8,8,8,8,8,8,8,8,8,8,8,8,8,8,8,8,8,8,8,8,8,8,8,8,8,8,8,8,8,8,8,8,8,8,8,8,8,8,8,8,8,8,8,8,8,8,8,8,8,8,8,8,8,8,8,8,8,8,8,8,8,8,8,8,8,8,8,8,8,8,8,8,8,8,8,8,8,8,8,8,8,8,8,8,8,8,8,8,8,8,8,8,8,8,8,8,8,8,8,8,8,8,8,8,8,8,8,8,8,8,8,8,8,8,8,8,8,8,8]).data.getD v11.toNat 0).toNat:Int))))) (none))
def jc.j7(N:Nat)(x0:Int)(x2:Int):Option (Int):=jc.IB N x0 x2
def jc.j4b(N:Nat)(wb:jc.Jx)(x0:Int)(x2:Int):Option (Int):=
 cond (bV 65536 x0) (cond (aH 16 0) (none) (wb (shr .u64 x0 16) (W .i64 (x2+16)))) (wb x0 x2)
def jc.j4(N:Nat)(x0:Int)(x2:Int):Option (Int):=jc.j4b N (jc.j7 N) x0 x2
def jc.b(N:Nat)(afy:jc.akY)(a0:Int):Option (Int):=
 cond (bV 4294967296 a0) (cond (aH 32 0) (none) (afy (shr .u64 a0 32) (32:Int))) (afy a0 (0:Int))
def jc(N:Nat)(a0:Int):Option (Int):=jc.b N (jc.j4 N) a0
def RQ(N:Nat)(a0:Int):Option (Int):=
 (jc N a0).bind fun r1=>some (W .i64 ((64:Int)-r1))
abbrev cP.afz:=Int→Int→Int→Int→Int→Int→Option ((Int)×(Int))
abbrev cP.nu:=Int→Int→Int→Int→Int→Int→Int→Int→Int→Option ((Int)×(Int))
abbrev cP.Qa:=Int→Int→Int→Int→Int→Int→Int→Int→Option ((Int)×(Int))
abbrev cP.Ae:=Int→Int→Int→Int→Int→Int→Int→Int→Int→Option ((Int)×(Int))
def cP.ZM(N:Nat)(x2:Int)(x8:Int)(bn:Int)(bX:Int)(cY:Int)(ga:Int):Option ((Int)×(Int)):=
 cond (aH x8 0) (none) (some ((W .u64 ((W .u64 (bX*4294967296))+ga)),(shr .u64 (W .u64 ((W .u64 ((W .u64 (cY*4294967296))+bn))-(W .u64 (ga*x2)))) x8)))
def cP.XX(N:Nat)(x2:Int)(x8:Int)(bn:Int)(bX:Int)(cY:Int)(ga:Int):Option ((Int)×(Int)):=cP.ZM N x2 x8 bn bX cY ga
def cP.zb(N:Nat)(Qb:cP.afz)(nv:cP.nu)(x2:Int)(x8:Int)(x9:Int)(aQ:Int)(bn:Int)(bX:Int)(cM:Int)(cY:Int)(ga:Int):Option ((Int)×(Int)):=
 cond (bV 4294967296 ga) (let v30:Int:=W .u64 (ga-1);let v31:Int:=W .u64 (cM+x9);cond (bV 4294967296 v31) (Qb x2 x8 bn bX cY v30) (nv x2 x8 x9 aQ bn bX v31 cY v30)) (cond (aH (W .u64 ((W .u64 ((4294967296:Int)*cM))+bn)) (W .u64 (ga*aQ))) (let v43:Int:=W .u64 (ga-1);let v44:Int:=W .u64 (cM+x9);cond (bV 4294967296 v44) (Qb x2 x8 bn bX cY v43) (nv x2 x8 x9 aQ bn bX v44 cY v43)) (Qb x2 x8 bn bX cY ga))
def cP.yf(N:Nat):Nat→cP.nu
 |0,_,_,_,_,_,_,_,_,_=>none
 |n+1,x2,x8,x9,aQ,bn,bX,cM,cY,ga=>cP.zb N (cP.XX N) (cP.yf N n) x2 x8 x9 aQ bn bX cM cY ga
def cP.IC(N:Nat)(Gr:cP.nu)(x2:Int)(x8:Int)(x9:Int)(aQ:Int)(aI:Int)(bo:Int)(bn:Int)(bX:Int):Option ((Int)×(Int)):=
 let v25:Int:=W .u64 ((W .u64 ((W .u64 (aI*4294967296))+bo))-(W .u64 (bX*x2)));cond (az x9 0) (none) (let v26:Int:=W .u64 (quo v25 x9);Gr x2 x8 x9 aQ bn bX (W .u64 (v25-(W .u64 (v26*x9)))) v25 v26)
def cP.Nb(N:Nat)(x2:Int)(x8:Int)(x9:Int)(aQ:Int)(aI:Int)(bo:Int)(bn:Int)(bX:Int):Option ((Int)×(Int)):=cP.IC N (cP.yf N N) x2 x8 x9 aQ aI bo bn bX
def cP.Ff(N:Nat)(Co:cP.Qa)(KV:cP.Ae)(x2:Int)(x8:Int)(x9:Int)(aQ:Int)(aI:Int)(bo:Int)(bn:Int)(bX:Int)(cM:Int):Option ((Int)×(Int)):=
 cond (bV 4294967296 bX) (let v19:Int:=W .u64 (bX-1);let v20:Int:=W .u64 (cM+x9);cond (bV 4294967296 v20) (Co x2 x8 x9 aQ aI bo bn v19) (KV x2 x8 x9 aQ aI bo bn v19 v20)) (cond (aH (W .u64 ((W .u64 ((4294967296:Int)*cM))+bo)) (W .u64 (bX*aQ))) (let v48:Int:=W .u64 (bX-1);let v49:Int:=W .u64 (cM+x9);cond (bV 4294967296 v49) (Co x2 x8 x9 aQ aI bo bn v48) (KV x2 x8 x9 aQ aI bo bn v48 v49)) (Co x2 x8 x9 aQ aI bo bn bX))
def cP.Fe(N:Nat):Nat→cP.Ae
 |0,_,_,_,_,_,_,_,_,_=>none
 |n+1,x2,x8,x9,aQ,aI,bo,bn,bX,cM=>cP.Ff N (cP.Nb N) (cP.Fe N n) x2 x8 x9 aQ aI bo bn bX cM
def cP.b(N:Nat)(Qc:cP.Ae)(a0:Int)(a1:Int)(a2:Int):Option ((Int)×(Int)):=
 cond (az a2 0) (none) (cond (bV a2 a0) (none) (cond (az a0 0) (cond (az a2 0) (none) (cond (az a2 0) (none) (some ((W .u64 (quo a1 a2)),(rem a1 a2))))) ((RQ N a2).bind fun r3=>let v4:Int:=W .u64 r3;cond (aH v4 0) (none) (let v5:Int:=W .u64 (shl .u64 a2 v4);cond (aH 32 0) (none) (let v6:Int:=shr .u64 v5 32;cond (aH v4 0) (none) (let v9:Int:=W .u64 ((64:Int)-v4);cond (aH v9 0) (none) (let v11:Int:=ja .or .u64 (W .u64 (shl .u64 a0 v4)) (shr .u64 a1 v9);cond (aH v4 0) (none) (let X9:Int:=W .u64 (shl .u64 a1 v4);cond (aH 32 0) (none) (cond (az v6 0) (none) (let Ng:Int:=W .u64 (quo v11 v6);Qc v5 v4 v6 (ja .and .u64 v5 4294967295) v11 (shr .u64 X9 32) (ja .and .u64 X9 4294967295) Ng (W .u64 (v11-(W .u64 (Ng*v6))))))))))))))
def cP(N:Nat)(a0:Int)(a1:Int)(a2:Int):Option ((Int)×(Int)):=cP.b N (cP.Fe N N) a0 a1 a2
abbrev oO.Gs:=bH→Int→Int→Int→Option (bH×(Int)×(Bool))
def oO.uv(N:Nat)(x4:bH)(aQ:Int)(aI:Int)(aL:Int):Option (bH×(Int)×(Bool)):=
 (mQ N true aQ aL).bind fun kZ=>some (kZ.1,(W .i64 aI),true)
def oO.Da(N:Nat)(x4:bH)(aQ:Int)(aI:Int)(aL:Int):Option (bH×(Int)×(Bool)):=oO.uv N x4 aQ aI aL
def oO.b(N:Nat)(p8:oO.Gs)(a0:bH)(a1:Int):Option (bH×(Int)×(Bool)):=
 cond (aH a1 1) (some (cc,(0:Int),false)) ((R2 N a0).bind fun r1=>let v2:Int:=W .u64 a1;(cP N (0:Int) r1.1 v2).bind fun r3=>(cP N r3.2 r1.2 v2).bind fun r4=>cond (bV 0 a0.1) (some (((W .i64 r3.1),(r4.1,())),(W .i64 r4.2),true)) (cond (aH 0 r4.2) ((pX N r4.1 (1:Int) (0:Int)).bind fun r7=>p8 cc (W .u64 (r3.1+r7.2)) (W .u64 (v2-r4.2)) r7.1) (p8 cc r3.1 r4.2 r4.1)))
def oO(N:Nat)(a0:bH)(a1:Int):Option (bH×(Int)×(Bool)):=oO.b N (oO.Da N) a0 a1
def Dc(N:Nat)(a0:bH):Option ((Int)×(Bool)):=
 cond (aH 63 0) (none) (cond (!az a0.1 (shr .i64 (W .i64 a0.2.1) 63)) (some ((0:Int),false)) (some ((W .i64 a0.2.1),true)))
def ZW(N:Nat)(a0:List (Int)):Option (List (Int)):=
 cond (fE 0 (List.length a0:Int) (List.length a0:Int) (List.length a0:Int)) (some (List.drop (0:Int).toNat (List.take (List.length a0:Int).toNat a0))) (none)
abbrev fc.fg:=(List (Int))→(List (Int))→Int→Int→Int→Int→Option (List (Int))
abbrev fc.ch:=(List (Int))→(List (Int))→Int→Int→Option (List (Int))
def fc.ow(N:Nat)(bU:fc.ch)(fP:fc.fg)(x0:List (Int))(x3:List (Int))(x4:Int)(x5:Int)(aQ:Int)(aI:Int):Option (List (Int)):=
 cond (aH 0 x5) (let v4:Int:=W .i64 (x5-1);cond (aJ v4 (List.length x3)) (cond (aJ (List.getD x3 v4.toNat (0:Int)) (List.length x0)) (cond (aJ x4 (List.length x0)) (cond (aH (List.getD x0 (List.getD x3 v4.toNat (0:Int)).toNat (0:Int)) (List.getD x0 x4.toNat (0:Int))) (fP x0 x3 x4 (W .i64 (x5-1)) aQ aI) ((gy N x3 x5 ([x4])).bind fun r6=>bU x0 r6 aQ (W .i64 (aI+1)))) (none)) (none)) (none)) ((gy N x3 x5 ([x4])).bind fun r8=>bU x0 r8 aQ (W .i64 (aI+1)))
def fc.l6(N:Nat)(bU:fc.ch):Nat→fc.fg
 |0,_,_,_,_,_,_=>none
 |n+1,x0,x3,x4,x5,aQ,aI=>fc.ow N bU (fc.l6 N bU n) x0 x3 x4 x5 aQ aI
def fc.g7(N:Nat)(pU:fc.fg)(bU:fc.ch)(x0:List (Int))(x3:List (Int))(aQ:Int)(aI:Int):Option (List (Int)):=
 cond (aH aI aQ) (pU x0 x3 aI (List.length x3:Int) aQ aI) ((ZW N x3).bind fun jK=>some jK)
def fc.l3(N:Nat):Nat→fc.ch
 |0,_,_,_,_=>none
 |n+1,x0,x3,aQ,aI=>fc.g7 N (fc.l6 N (fc.l3 N n) N) (fc.l3 N n) x0 x3 aQ aI
def fc.b(N:Nat)(iN:fc.ch)(a0:List (Int)):Option (List (Int)):=
 cond (dZ 0 (List.length a0:Int)) (iN a0 (List.replicate (0:Int).toNat (0:Int)) (List.length a0:Int) (0:Int)) (none)
def fc(N:Nat)(a0:List (Int)):Option (List (Int)):=fc.b N (fc.l3 N N) a0
abbrev dO.rl:=(List (Int))→(List (Int))→Int→Int→Option ((List (Int))×(Int))
abbrev dO.dW:=Int→Int→(List (Int))→(List (Int))→Int→(List (Int))→Int→Int→Option ((List (Int))×(Int))
abbrev dO.Jy:=Int→(List (Int))→Int→Option ((List (Int))×(Int))
def dO.uX(N:Nat)(rm:dO.rl)(x8:List (Int))(Ya:List (Int))(x89:Int)(Tl:Int):Option ((List (Int))×(Int)):=
 cond (aH Tl x89) (cond (aJ Tl (List.length Ya)) (cond (aJ (List.getD Ya Tl.toNat (0:Int)) (List.length x8)) (cond (aJ (List.getD Ya Tl.toNat (0:Int)) (List.length x8)) (rm (List.set x8 (List.getD Ya Tl.toNat (0:Int)).toNat (W .i64 ((List.getD x8 (List.getD Ya Tl.toNat (0:Int)).toNat (0:Int))+1))) Ya x89 (W .i64 (Tl+1))) (none)) (none)) (none)) (some (x8,(0:Int)))
def dO.ti(N:Nat):Nat→dO.rl
 |0,_,_,_,_=>none
 |n+1,x8,Ya,x89,Tl=>dO.uX N (dO.ti N n) x8 Ya x89 Tl
def dO.jO(N:Nat)(Gt:dO.rl)(fk:dO.dW)(x0:Int)(x6:Int)(x8:List (Int))(x9:List (Int))(aQ:Int)(x50:List (Int))(x51:Int)(Nh:Int):Option ((List (Int))×(Int)):=
 cond (aH Nh x51) (cond (aJ Nh (List.length x50)) ((R1 N x0 (List.getD x50 Nh.toNat (0:Int))).bind fun r7=>(oO N r7 x6).bind fun r8=>(Dc N r8.1).bind fun r9=>cond (aJ Nh (List.length x8)) (let v10:List (Int):=List.set x8 Nh.toNat r9.1;cond (aJ Nh (List.length x9)) (cond (aJ Nh (List.length v10)) (fk x0 x6 v10 (List.set x9 Nh.toNat r8.2.1) (W .i64 (aQ-(List.getD v10 Nh.toNat (0:Int)))) x50 x51 (W .i64 (Nh+1))) (none)) (none)) (none)) (none)) ((fc N x9).bind fun oz=>cond (fE 0 aQ (List.length oz:Int) (List.length oz:Int)) (let Ng:List (Int):=List.drop (0:Int).toNat (List.take aQ.toNat oz);Gt x8 Ng (List.length Ng:Int) (0:Int)) (none))
def dO.lz(N:Nat):Nat→dO.dW
 |0,_,_,_,_,_,_,_,_=>none
 |n+1,x0,x6,x8,x9,aQ,x50,x51,Nh=>dO.jO N (dO.ti N N) (dO.lz N n) x0 x6 x8 x9 aQ x50 x51 Nh
def dO.H6(N:Nat)(oX:dO.dW)(x0:Int)(x1:List (Int))(x6:Int):Option ((List (Int))×(Int)):=
 cond (dZ (List.length x1:Int) (List.length x1:Int)) (let v4:List (Int):=List.replicate (List.length x1:Int).toNat (0:Int);cond (dZ (List.length x1:Int) (List.length x1:Int)) (cond (az x0 0) (some (v4,(0:Int))) (oX x0 x6 v4 (List.replicate (List.length x1:Int).toNat (0:Int)) x0 x1 (List.length x1:Int) (0:Int))) (none)) (none)
def dO.j8(N:Nat)(x0:Int)(x1:List (Int))(x6:Int):Option ((List (Int))×(Int)):=dO.H6 N (dO.lz N N) x0 x1 x6
def dO.b(N:Nat)(Af:dO.Jy)(a0:Int)(a1:List (Int)):Option ((List (Int))×(Int)):=
 cond (aH a0 0) (some ([],(1:Int))) ((Mk N a1).bind fun r1=>cond (!r1) (some ([],(1:Int))) ((lP N a1).bind fun r2=>cond (!r2.2) (some ([],(2:Int))) (cond (az r2.1 0) (cond (aH 0 a0) (some ([],(1:Int))) (Af a0 a1 r2.1)) (Af a0 a1 r2.1))))
def dO(N:Nat)(a0:Int)(a1:List (Int)):Option ((List (Int))×(Int)):=dO.b N (dO.j8 N) a0 a1
abbrev jG.nw:=(List (Int))→(List (Int))→(List (Int))→Int→(List (Int))→Int→Int→Option ((List (Int))×(Int)×(Int))
abbrev jG.Qd:=(List (Int))→(List (Int))→(List (Int))→Int→(List (Int))→Int→Int→Option ((List (Int))×(Int)×(Int))
abbrev jG.cN:=(List (Int))→(List (Int))→(List (Int))→Int→Option ((List (Int))×(Int)×(Int))
def jG.tp(N:Nat)(cE:jG.cN)(vd:jG.nw)(x1:List (Int))(x2:List (Int))(aI:List (Int))(aL:Int)(P9:List (Int))(Jw:Int)(KW:Int):Option ((List (Int))×(Int)×(Int)):=
 cond (aH KW Jw) (cond (aJ KW (List.length P9)) (cond (aJ KW (List.length x2)) (cond (aJ KW (List.length aI)) (let QZ:Int:=mn (List.getD P9 KW.toNat (0:Int)) (W .i64 ((List.getD x2 KW.toNat (0:Int))-(List.getD aI KW.toNat (0:Int))));cond (aJ KW (List.length aI)) (cond (aJ KW (List.length aI)) (vd x1 x2 (List.set aI KW.toNat (W .i64 ((List.getD aI KW.toNat (0:Int))+QZ))) (W .i64 (aL-QZ)) P9 Jw (W .i64 (KW+1))) (none)) (none)) (none)) (none)) (none)) (cE x1 x2 aI aL)
def jG.vR(N:Nat)(cE:jG.cN):Nat→jG.nw
 |0,_,_,_,_,_,_,_=>none
 |n+1,x1,x2,aI,aL,P9,Jw,KW=>jG.tp N cE (jG.vR N cE n) x1 x2 aI aL P9 Jw KW
def jG.Z0(N:Nat)(Ah:jG.nw)(cE:jG.cN)(Yb:jG.Qd)(x1:List (Int))(x2:List (Int))(aI:List (Int))(aL:Int)(bo:List (Int))(AD:Int)(sM:Int):Option ((List (Int))×(Int)×(Int)):=
 cond (aH sM AD) (cond (aJ sM (List.length aI)) (cond (aJ sM (List.length x2)) (cond (aH (List.getD aI sM.toNat (0:Int)) (List.getD x2 sM.toNat (0:Int))) (cond (aJ sM (List.length x1)) (cond (aJ sM (List.length bo)) (Yb x1 x2 aI aL (List.set bo sM.toNat (List.getD x1 sM.toNat (0:Int))) AD (W .i64 (sM+1))) (none)) (none)) (Yb x1 x2 aI aL bo AD (W .i64 (sM+1)))) (none)) (none)) ((dO N aL bo).bind fun kZ=>cond (!az kZ.2 0) (some (aI,aL,(0:Int))) (Ah x1 x2 aI aL kZ.1 (List.length kZ.1:Int) (0:Int)))
def jG.l10(N:Nat)(cE:jG.cN):Nat→jG.Qd
 |0,_,_,_,_,_,_,_=>none
 |n+1,x1,x2,aI,aL,bo,AD,sM=>jG.Z0 N (jG.vR N cE N) cE (jG.l10 N cE n) x1 x2 aI aL bo AD sM
def jG.ll(N:Nat)(afB:jG.Qd)(cE:jG.cN)(x1:List (Int))(x2:List (Int))(aI:List (Int))(aL:Int):Option ((List (Int))×(Int)×(Int)):=
 cond (aH 0 aL) (cond (dZ (List.length x1:Int) (List.length x1:Int)) (afB x1 x2 aI aL (List.replicate (List.length x1:Int).toNat (0:Int)) (List.length x1:Int) (0:Int)) (none)) (some (aI,aL,(0:Int)))
def jG.l7(N:Nat):Nat→jG.cN
 |0,_,_,_,_=>none
 |n+1,x1,x2,aI,aL=>jG.ll N (jG.l10 N (jG.l7 N n) N) (jG.l7 N n) x1 x2 aI aL
def jG.b(N:Nat)(nx:jG.cN)(a0:Int)(a1:List (Int))(a2:List (Int)):Option ((List (Int))×(Int)×(Int)):=
 cond (aH a0 0) (some ([],(0:Int),(1:Int))) ((Mk N a1).bind fun r1=>cond (!r1) (some ([],(0:Int),(1:Int))) (cond (!az (List.length a2:Int) (List.length a1:Int)) (some ([],(0:Int),(1:Int))) ((Mk N a2).bind fun r2=>cond (!r2) (some ([],(0:Int),(1:Int))) ((lP N a1).bind fun r3=>cond (!r3.2) (some ([],(0:Int),(2:Int))) (cond (dZ (List.length a1:Int) (List.length a1:Int)) (nx a1 a2 (List.replicate (List.length a1:Int).toNat (0:Int)) a0) (none))))))
def jG(N:Nat)(a0:Int)(a1:List (Int))(a2:List (Int)):Option ((List (Int))×(Int)×(Int)):=jG.b N (jG.l7 N N) a0 a1 a2
abbrev lI.rl:=Int→Int→(List (Int))→aj→(List (Int))→Int→Int→Option (aj×(Int))
abbrev lI.ny:=Int→Int→(List (Int))→(List (Int))→aj→Int→Int→Option (aj×(Int))
def lI.uX(N:Nat)(rm:lI.rl)(x2:Int)(x8:Int)(x9:List (Int))(cM:aj)(Qe:List (Int))(x96:Int)(Ea:Int):Option (aj×(Int)):=
 cond (aH Ea x96) (cond (aJ Ea (List.length Qe)) (cond (aH x8 0) (let Q0:Int:=W .i64 (0-(List.getD Qe Ea.toNat (0:Int)));cond (!az Q0 0) (cond (aJ Ea (List.length x9)) (cond (small (List.length cM+List.length ([(List.getD x9 Ea.toNat (0:Int),(x2,(Q0,())))]))) (rm x2 x8 x9 (cM++([(List.getD x9 Ea.toNat (0:Int),(x2,(Q0,())))])) Qe x96 (W .i64 (Ea+1))) (none)) (none)) (rm x2 x8 x9 cM Qe x96 (W .i64 (Ea+1)))) (cond (!az (List.getD Qe Ea.toNat (0:Int)) (0:Int)) (cond (aJ Ea (List.length x9)) (cond (small (List.length cM+List.length ([(List.getD x9 Ea.toNat (0:Int),(x2,(List.getD Qe Ea.toNat (0:Int),())))]))) (rm x2 x8 x9 (cM++([(List.getD x9 Ea.toNat (0:Int),(x2,(List.getD Qe Ea.toNat (0:Int),())))])) Qe x96 (W .i64 (Ea+1))) (none)) (none)) (rm x2 x8 x9 cM Qe x96 (W .i64 (Ea+1))))) (none)) (some (cM,(0:Int)))
def lI.ti(N:Nat):Nat→lI.rl
 |0,_,_,_,_,_,_,_=>none
 |n+1,x2,x8,x9,cM,Qe,x96,Ea=>lI.uX N (lI.ti N n) x2 x8 x9 cM Qe x96 Ea
def lI.qj(N:Nat)(Gt:lI.rl)(ob:lI.ny)(x2:Int)(x8:Int)(x9:List (Int))(aQ:List (Int))(MR:aj)(x42:Int)(KX:Int):Option (aj×(Int)):=
 cond (aH KX x42) (cond (aJ KX (List.length MR)) (cond (!az ((List.getD MR KX.toNat aS).1) (0:Int)) (cond (az (((List.getD MR KX.toNat aS).2).1) x2) (cond (!(la .bool (aH ((((List.getD MR KX.toNat aS).2).2).1) (0:Int)) (aH x8 0))) (cond (small (List.length x9+List.length ([(List.getD MR KX.toNat aS).1]))) ((ZK N ((((List.getD MR KX.toNat aS).2).2).1)).bind fun r5=>let v6:Int:=W .i64 r5;cond (small (List.length aQ+List.length ([v6]))) (ob x2 x8 (x9++([(List.getD MR KX.toNat aS).1])) (aQ++([v6])) MR x42 (W .i64 (KX+1))) (none)) (none)) (ob x2 x8 x9 aQ MR x42 (W .i64 (KX+1)))) (ob x2 x8 x9 aQ MR x42 (W .i64 (KX+1)))) (ob x2 x8 x9 aQ MR x42 (W .i64 (KX+1)))) (none)) ((ZK N x8).bind fun mv=>(jG N (W .i64 mv) aQ aQ).bind fun oz=>cond (!az oz.2.2 0) (some ([],oz.2.2)) (Gt x2 x8 x9 ([((0:Int),(x2,((W .i64 (0-x8)),())))]) oz.1 (List.length oz.1:Int) (0:Int)))
def lI.tt(N:Nat):Nat→lI.ny
 |0,_,_,_,_,_,_,_=>none
 |n+1,x2,x8,x9,aQ,MR,x42,KX=>lI.qj N (lI.ti N N) (lI.tt N n) x2 x8 x9 aQ MR x42 KX
def lI.b(N:Nat)(Ai:lI.ny)(a0:ae)(a1:ah)(a2:Int):Option (aj×(Int)):=
 (ik N a0 a1).bind fun r1=>cond (!r1) (some ([],(1:Int))) (cond (aH a2 0) (some ([],(3:Int))) (cond (bV (List.length a0.1:Int) a2) (some ([],(3:Int))) ((xL N a1.2.2.2.1 (0:Int) a2).bind fun r2=>cond (az r2 0) (some ([],(0:Int))) (Ai a2 r2 ([]) ([]) a1.2.2.2.1 (List.length a1.2.2.2.1:Int) (0:Int)))))
def lI(N:Nat)(a0:ae)(a1:ah)(a2:Int):Option (aj×(Int)):=lI.b N (lI.tt N N) a0 a1 a2
def Ss(N:Nat)(a0:ah):Option ah:=
 (jX N a0.1).bind fun r1=>(jX N a0.2.1).bind fun r2=>(jX N a0.2.2.1).bind fun r3=>(jX N a0.2.2.2.1).bind fun r4=>(jX N a0.2.2.2.2.1).bind fun r5=>(jX N a0.2.2.2.2.2.1).bind fun r6=>some (r1,(r2,(r3,(r4,(r5,(r6,()))))))
abbrev dY.fg:=aj→Int→g6→Int→aj→Int→Int→Option (Bool)
abbrev dY.bW:=aj→Int→Option (Bool)
def dY.ow(N:Nat)(c0:dY.bW)(fP:dY.fg)(x0:aj)(x3:Int)(x4:g6)(x9:Int)(aL:aj)(bo:Int)(bn:Int):Option (Bool):=
 cond (aH bn bo) (cond (aJ bn (List.length aL)) (cond (az (((List.getD aL bn.toNat aS).2).1) x3) ((R5 N ((((List.getD aL bn.toNat aS).2).2).1)).bind fun r3=>cond (small (List.length x4+List.length ([r3]))) (fP x0 x3 (x4++([r3])) x9 aL bo (W .i64 (bn+1))) (none)) (fP x0 x3 x4 x9 aL bo (W .i64 (bn+1)))) (none)) ((jt N x4).bind fun r7=>cond (!r7.2) (some false) ((ZO N r7.1).bind fun r8=>cond (!az r8 0) (some false) (c0 x0 (W .i64 (x9+1)))))
def dY.l6(N:Nat)(c0:dY.bW):Nat→dY.fg
 |0,_,_,_,_,_,_,_=>none
 |n+1,x0,x3,x4,x9,aL,bo,bn=>dY.ow N c0 (dY.l6 N c0 n) x0 x3 x4 x9 aL bo bn
def dY.eu(N:Nat)(pU:dY.fg)(c0:dY.bW)(x0:aj)(x9:Int):Option (Bool):=
 cond (aH x9 6) (pU x0 x9 ([]) x9 x0 (List.length x0:Int) (0:Int)) (some true)
def dY.l2(N:Nat):Nat→dY.bW
 |0,_,_=>none
 |n+1,x0,x9=>dY.eu N (dY.l6 N (dY.l2 N n) N) (dY.l2 N n) x0 x9
def dY.b(N:Nat)(fB:dY.bW)(a0:aj):Option (Bool):=
 fB a0 (0:Int)
def dY(N:Nat)(a0:aj):Option (Bool):=dY.b N (dY.l2 N N) a0
def Sg(N:Nat)(a0:aj):Option aj:=
 cond (fE 0 (List.length a0:Int) (List.length a0:Int) (List.length a0:Int)) (some (List.drop (0:Int).toNat (List.take (List.length a0:Int).toNat a0))) (none)
abbrev bu.afC:=aj→aj→cy→Int→aj→Int→Int→Option (aj×(Int))
abbrev bu.iV:=aj→aj→cy→Int→aj→Int→Int→Option (aj×(Int))
abbrev bu.Qf:=aj→aj→cy→g6→aj→Int→Int→aj→Int→Int→Option (aj×(Int))
abbrev bu.BS:=aj→aj→aj→Int→Int→Option (aj×(Int))
abbrev bu.dW:=aj→aj→aj→Int→Int→Option (aj×(Int))
abbrev bu.aW:=aj→aj→aj→Int→Int→Option (aj×(Int))
def bu.ZQ(N:Nat)(fk:bu.dW)(x1:aj)(x8:aj)(aQ:cy)(aI:Int)(Gu:aj)(AD:Int)(sM:Int):Option (aj×(Int)):=
 cond (az aI (List.length x8:Int)) ((gy N x8 aI ([(aQ.1,(aQ.2.1,((0:Int),())))])).bind fun nK=>fk x1 nK Gu AD (W .i64 (sM+1))) (cond (aJ aI (List.length x8)) ((LS N aQ.1 aQ.2.1 (List.getD x8 aI.toNat aS)).bind fun sN=>cond (!az sN 0) ((gy N x8 aI ([(aQ.1,(aQ.2.1,((0:Int),())))])).bind fun wc=>fk x1 wc Gu AD (W .i64 (sM+1))) (fk x1 x8 Gu AD (W .i64 (sM+1)))) (none))
def bu.j18(N:Nat)(fk:bu.dW)(x1:aj)(x8:aj)(aQ:cy)(aI:Int)(Gu:aj)(AD:Int)(sM:Int):Option (aj×(Int)):=bu.ZQ N fk x1 x8 aQ aI Gu AD sM
def bu.qX(N:Nat)(Yc:bu.afC)(fk:bu.dW)(jU:bu.iV)(x1:aj)(x8:aj)(aQ:cy)(aI:Int)(Gu:aj)(AD:Int)(sM:Int):Option (aj×(Int)):=
 cond (aH aI (List.length x8:Int)) (cond (aJ aI (List.length x8)) ((LS N aQ.1 aQ.2.1 (List.getD x8 aI.toNat aS)).bind fun jK=>cond (aH 0 jK) (jU x1 x8 aQ (W .i64 (aI+1)) Gu AD sM) (Yc x1 x8 aQ aI Gu AD sM)) (none)) (Yc x1 x8 aQ aI Gu AD sM)
def bu.su(N:Nat)(fk:bu.dW):Nat→bu.iV
 |0,_,_,_,_,_,_,_=>none
 |n+1,x1,x8,aQ,aI,Gu,AD,sM=>bu.qX N (bu.j18 N fk) fk (bu.su N fk n) x1 x8 aQ aI Gu AD sM
def bu.Sh(N:Nat)(Cp:bu.BS)(Qg:bu.Qf)(x1:aj)(aL:aj)(bn:cy)(bX:g6)(ve:aj)(xP:Int)(nJ:Int)(DN:aj)(MS:Int)(Bh:Int):Option (aj×(Int)):=
 cond (aH Bh MS) (cond (aJ Bh (List.length DN)) (cond (az ((List.getD DN Bh.toNat aS).1) bn.1) (cond (az (((List.getD DN Bh.toNat aS).2).1) bn.2.1) ((R5 N ((((List.getD DN Bh.toNat aS).2).2).1)).bind fun Ab=>cond (small (List.length bX+List.length ([Ab]))) (Qg x1 aL bn (bX++([Ab])) ve xP nJ DN MS (W .i64 (Bh+1))) (none)) (Qg x1 aL bn bX ve xP nJ DN MS (W .i64 (Bh+1)))) (Qg x1 aL bn bX ve xP nJ DN MS (W .i64 (Bh+1)))) (none)) ((jt N bX).bind fun Yd=>(Dc N Yd.1).bind fun Cq=>cond (!Cq.2) (some (bp,(2:Int))) ((LV N Cq.1).bind fun Jz=>cond (!Jz) (some (bp,(2:Int))) (cond (!az Cq.1 0) (cond (small (List.length aL+List.length ([(bn.1,(bn.2.1,(Cq.1,())))]))) (Cp x1 (aL++([(bn.1,(bn.2.1,(Cq.1,())))])) ve xP (W .i64 (nJ+1))) (none)) (Cp x1 aL ve xP (W .i64 (nJ+1))))))
def bu.X0(N:Nat)(Cp:bu.BS):Nat→bu.Qf
 |0,_,_,_,_,_,_,_,_,_,_=>none
 |n+1,x1,aL,bn,bX,ve,xP,nJ,DN,MS,Bh=>bu.Sh N Cp (bu.X0 N Cp n) x1 aL bn bX ve xP nJ DN MS Bh
def bu.Sj(N:Nat)(afD:bu.Qf)(Cp:bu.BS)(x1:aj)(aL:aj)(ve:aj)(xP:Int)(nJ:Int):Option (aj×(Int)):=
 cond (aH nJ xP) (cond (aJ nJ (List.length ve)) ((R5 N ((((List.getD ve nJ.toNat aS).2).2).1)).bind fun H9=>afD x1 aL (List.getD ve nJ.toNat aS) ([H9]) ve xP nJ x1 (List.length x1:Int) (0:Int)) (none)) ((Sg N aL).bind fun Qh=>some (Qh,(0:Int)))
def bu.Si(N:Nat):Nat→bu.BS
 |0,_,_,_,_,_=>none
 |n+1,x1,aL,ve,xP,nJ=>bu.Sj N (bu.X0 N (bu.Si N n) N) (bu.Si N n) x1 aL ve xP nJ
def bu.jO(N:Nat)(Ad:bu.iV)(afE:bu.BS)(fk:bu.dW)(x1:aj)(x8:aj)(Gu:aj)(AD:Int)(sM:Int):Option (aj×(Int)):=
 cond (aH sM AD) (cond (aJ sM (List.length Gu)) (Ad x1 x8 (List.getD Gu sM.toNat aS) (0:Int) Gu AD sM) (none)) (cond (dZ 0 (List.length x8:Int)) (afE x1 (List.replicate (0:Int).toNat aS) x8 (List.length x8:Int) (0:Int)) (none))
def bu.lz(N:Nat):Nat→bu.dW
 |0,_,_,_,_,_=>none
 |n+1,x1,x8,Gu,AD,sM=>bu.jO N (bu.su N (bu.lz N n) N) (bu.Si N N) (bu.lz N n) x1 x8 Gu AD sM
def bu.cn(N:Nat)(oX:bu.dW)(bt:bu.aW)(x0:aj)(x1:aj)(x30:aj)(x31:Int)(Ye:Int):Option (aj×(Int)):=
 cond (aH Ye x31) (cond (aJ Ye (List.length x30)) ((OB N ((List.getD x30 Ye.toNat aS).1) (((List.getD x30 Ye.toNat aS).2).1)).bind fun r3=>cond (!r3) (some (bp,(1:Int))) ((LV N ((((List.getD x30 Ye.toNat aS).2).2).1)).bind fun r4=>cond (!r4) (some (bp,(1:Int))) (bt x0 x1 x30 x31 (W .i64 (Ye+1))))) (none)) ((dY N x1).bind fun r6=>cond (!r6) (some (bp,(1:Int))) ((jX N x0).bind fun r7=>oX x1 r7 x1 (List.length x1:Int) (0:Int)))
def bu.l4(N:Nat):Nat→bu.aW
 |0,_,_,_,_,_=>none
 |n+1,x0,x1,x30,x31,Ye=>bu.cn N (bu.lz N N) (bu.l4 N n) x0 x1 x30 x31 Ye
def bu.b(N:Nat)(cW:bu.aW)(a0:aj)(a1:aj):Option (aj×(Int)):=
 (jM N a0).bind fun r1=>cond (!r1) (some (bp,(1:Int))) (cond (aH 400 (List.length a1:Int)) (some (bp,(1:Int))) (cW a0 a1 a1 (List.length a1:Int) (0:Int)))
def bu(N:Nat)(a0:aj)(a1:aj):Option (aj×(Int)):=bu.b N (bu.l4 N N) a0 a1
def ZS(N:Nat)(a0:aj):Option aj:=
 cond (fE 0 (List.length a0:Int) (List.length a0:Int) (List.length a0:Int)) (some (List.drop (0:Int).toNat (List.take (List.length a0:Int).toNat a0))) (none)
abbrev bw.Qa:=cI→aj→pE→Int→cI→Int→Int→Option (aj×(Int))
abbrev bw.Aj:=cI→aj→pE→Int→cI→Int→Int→Option (aj×(Int))
abbrev bw.Ak:=cI→aj→cy→g6→aj→Int→Int→cI→Int→Int→Option (aj×(Int))
abbrev bw.BZ:=cI→aj→aj→Int→Int→Option (aj×(Int))
abbrev bw.iV:=cI→aj→cI→Int→Int→Option (aj×(Int))
abbrev bw.bl:=aj→cI→g6→cI→Int→Int→Option (aj×(Int))
def bw.IC(N:Nat)(jU:bw.iV)(x1:cI)(aI:aj)(bo:pE)(bn:Int)(Gv:cI)(Ia:Int)(Eb:Int):Option (aj×(Int)):=
 cond (az bn (List.length aI:Int)) ((gy N aI bn ([(bo.1,(bo.2.1,((0:Int),())))])).bind fun sN=>jU x1 sN Gv Ia (W .i64 (Eb+1))) (cond (aJ bn (List.length aI)) ((IK N bo.1 bo.2.1 (List.getD aI bn.toNat aS)).bind fun vo=>cond (!az vo 0) ((gy N aI bn ([(bo.1,(bo.2.1,((0:Int),())))])).bind fun vp=>jU x1 vp Gv Ia (W .i64 (Eb+1))) (jU x1 aI Gv Ia (W .i64 (Eb+1)))) (none))
def bw.Nb(N:Nat)(jU:bw.iV)(x1:cI)(aI:aj)(bo:pE)(bn:Int)(Gv:cI)(Ia:Int)(Eb:Int):Option (aj×(Int)):=bw.IC N jU x1 aI bo bn Gv Ia Eb
def bw.IY(N:Nat)(Co:bw.Qa)(jU:bw.iV)(Qi:bw.Aj)(x1:cI)(aI:aj)(bo:pE)(bn:Int)(Gv:cI)(Ia:Int)(Eb:Int):Option (aj×(Int)):=
 cond (aH bn (List.length aI:Int)) (cond (aJ bn (List.length aI)) ((IK N bo.1 bo.2.1 (List.getD aI bn.toNat aS)).bind fun mv=>cond (aH 0 mv) (Qi x1 aI bo (W .i64 (bn+1)) Gv Ia Eb) (Co x1 aI bo bn Gv Ia Eb)) (none)) (Co x1 aI bo bn Gv Ia Eb)
def bw.Md(N:Nat)(jU:bw.iV):Nat→bw.Aj
 |0,_,_,_,_,_,_,_=>none
 |n+1,x1,aI,bo,bn,Gv,Ia,Eb=>bw.IY N (bw.Nb N jU) jU (bw.Md N jU n) x1 aI bo bn Gv Ia Eb
def bw.FH(N:Nat)(Cr:bw.BZ)(xb:bw.Ak)(x1:cI)(bX:aj)(cY:cy)(ga:g6)(vf:aj)(xQ:Int)(tw:Int)(Bi:cI)(MT:Int)(Al:Int):Option (aj×(Int)):=
 cond (aH Al MT) (cond (aJ Al (List.length Bi)) (cond (az ((List.getD Bi Al.toNat ((0:Int),((0:Int),(cc,())))).1) cY.1) (cond (az (((List.getD Bi Al.toNat ((0:Int),((0:Int),(cc,())))).2).1) cY.2.1) (cond (small (List.length ga+List.length ([(((List.getD Bi Al.toNat ((0:Int),((0:Int),(cc,())))).2).2).1]))) (xb x1 bX cY (ga++([(((List.getD Bi Al.toNat ((0:Int),((0:Int),(cc,())))).2).2).1])) vf xQ tw Bi MT (W .i64 (Al+1))) (none)) (xb x1 bX cY ga vf xQ tw Bi MT (W .i64 (Al+1)))) (xb x1 bX cY ga vf xQ tw Bi MT (W .i64 (Al+1)))) (none)) ((jt N ga).bind fun Cq=>(Dc N Cq.1).bind fun Jz=>cond (!Cq.2) (some (bp,(2:Int))) (cond (!Jz.2) (some (bp,(2:Int))) (cond (!az Jz.1 0) (cond (small (List.length bX+List.length ([(cY.1,(cY.2.1,(Jz.1,())))]))) (Cr x1 (bX++([(cY.1,(cY.2.1,(Jz.1,())))])) vf xQ (W .i64 (tw+1))) (none)) (Cr x1 bX vf xQ (W .i64 (tw+1))))))
def bw.IX(N:Nat)(Cr:bw.BZ):Nat→bw.Ak
 |0,_,_,_,_,_,_,_,_,_,_=>none
 |n+1,x1,bX,cY,ga,vf,xQ,tw,Bi,MT,Al=>bw.FH N Cr (bw.IX N Cr n) x1 bX cY ga vf xQ tw Bi MT Al
def bw.Sn(N:Nat)(Qj:bw.Ak)(Cr:bw.BZ)(x1:cI)(bX:aj)(vf:aj)(xQ:Int)(tw:Int):Option (aj×(Int)):=
 cond (aH tw xQ) (cond (aJ tw (List.length vf)) ((R5 N ((((List.getD vf tw.toNat aS).2).2).1)).bind fun Ab=>Qj x1 bX (List.getD vf tw.toNat aS) ([Ab]) vf xQ tw x1 (List.length x1:Int) (0:Int)) (none)) ((ZS N bX).bind fun Qh=>some (Qh,(0:Int)))
def bw.Sm(N:Nat):Nat→bw.BZ
 |0,_,_,_,_,_=>none
 |n+1,x1,bX,vf,xQ,tw=>bw.Sn N (bw.IX N (bw.Sm N n) N) (bw.Sm N n) x1 bX vf xQ tw
def bw.qX(N:Nat)(Qk:bw.Aj)(afF:bw.BZ)(jU:bw.iV)(x1:cI)(aI:aj)(Gv:cI)(Ia:Int)(Eb:Int):Option (aj×(Int)):=
 cond (aH Eb Ia) (cond (aJ Eb (List.length Gv)) (Qk x1 aI (List.getD Gv Eb.toNat ((0:Int),((0:Int),(cc,())))) (0:Int) Gv Ia Eb) (none)) (cond (dZ 0 (List.length aI:Int)) (afF x1 (List.replicate (0:Int).toNat aS) aI (List.length aI:Int) (0:Int)) (none))
def bw.su(N:Nat):Nat→bw.iV
 |0,_,_,_,_,_=>none
 |n+1,x1,aI,Gv,Ia,Eb=>bw.qX N (bw.Md N (bw.su N n) N) (bw.Sm N N) (bw.su N n) x1 aI Gv Ia Eb
def bw.dq(N:Nat)(Ad:bw.iV)(bf:bw.bl)(x0:aj)(x1:cI)(x6:g6)(Yf:cI)(x37:Int)(Tm:Int):Option (aj×(Int)):=
 cond (aH Tm x37) (cond (aJ Tm (List.length Yf)) ((II N ((List.getD Yf Tm.toNat ((0:Int),((0:Int),(cc,())))).1) (((List.getD Yf Tm.toNat ((0:Int),((0:Int),(cc,())))).2).1)).bind fun r4=>cond (!r4) (some (bp,(1:Int))) (cond (small (List.length x6+List.length ([(((List.getD Yf Tm.toNat ((0:Int),((0:Int),(cc,())))).2).2).1]))) (bf x0 x1 (x6++([(((List.getD Yf Tm.toNat ((0:Int),((0:Int),(cc,())))).2).2).1])) Yf x37 (W .i64 (Tm+1))) (none))) (none)) ((jt N x6).bind fun r7=>cond (!r7.2) (some (bp,(1:Int))) ((ZO N r7.1).bind fun r8=>cond (!az r8 0) (some (bp,(1:Int))) ((jX N x0).bind fun r9=>Ad x1 r9 x1 (List.length x1:Int) (0:Int))))
def bw.l5(N:Nat):Nat→bw.bl
 |0,_,_,_,_,_,_=>none
 |n+1,x0,x1,x6,Yf,x37,Tm=>bw.dq N (bw.su N N) (bw.l5 N n) x0 x1 x6 Yf x37 Tm
def bw.b(N:Nat)(dL:bw.bl)(a0:aj)(a1:cI):Option (aj×(Int)):=
 (vI N a0).bind fun r1=>cond (!r1) (some (bp,(1:Int))) (cond (aH 400 (List.length a1:Int)) (some (bp,(1:Int))) (cond (dZ 0 (List.length a1:Int)) (dL a0 a1 (List.replicate (0:Int).toNat cc) a1 (List.length a1:Int) (0:Int)) (none)))
def bw(N:Nat)(a0:aj)(a1:cI):Option (aj×(Int)):=bw.b N (bw.l5 N N) a0 a1
def F65(N:Nat)(a0:ah)(a1:aj)(a2:cI):Option (ah×(Int)):=
 (Ss N a0).bind fun r1=>(bu N a0.2.2.2.1 a1).bind fun r2=>cond (!az r2.2 0) (some ((bK,(cL,(bp,(bp,(c4,(c9,())))))),r2.2)) ((bw N a0.2.2.1 a2).bind fun r3=>cond (!az r3.2 0) (some ((bK,(cL,(bp,(bp,(c4,(c9,())))))),r3.2)) (some ((r1.1,(r1.2.1,(r3.1,(r2.1,r1.2.2.2.2)))),(0:Int))))
abbrev xO.bl:=ae→ah→ah→aj→Int→Int→Option (ah×(Int))
def xO.dq(N:Nat)(bf:xO.bl)(x2:ae)(x3:ah)(x4:ah)(x6:aj)(cY:Int)(ga:Int):Option (ah×(Int)):=
 cond (aH ga cY) ((lI N x2 x3 ga).bind fun r3=>cond (!az r3.2 0) (some ((bK,(cL,(bp,(bp,(c4,(c9,())))))),r3.2)) (cond (small (List.length x6+List.length r3.1)) (bf x2 x3 x4 (x6++r3.1) cY (W .i64 (ga+1))) (none))) ((F65 N x3 x6 ([]:List ((Int)×((Int)×(((Int)×((Int)×(Unit)))×(Unit)))))).bind fun r6=>some (r6.1,r6.2))
def xO.l5(N:Nat):Nat→xO.bl
 |0,_,_,_,_,_,_=>none
 |n+1,x2,x3,x4,x6,cY,ga=>xO.dq N (xO.l5 N n) x2 x3 x4 x6 cY ga
def xO.b(N:Nat)(dL:xO.bl)(a0:ae)(a1:ah):Option (ah×(Int)):=
 (ik N a0 a1).bind fun r1=>cond (!r1) (some ((bK,(cL,(bp,(bp,(c4,(c9,())))))),(1:Int))) (dL a0 a1 (bK,(cL,(bp,(bp,(c4,(c9,())))))) ([]) (List.length a0.1:Int) (0:Int))
def xO(N:Nat)(a0:ae)(a1:ah):Option (ah×(Int)):=xO.b N (xO.l5 N N) a0 a1
abbrev vn.aW:=aj→aj→Int→Option (Bool)
def vn.cn(N:Nat)(bt:vn.aW)(x0:aj)(x1:aj)(x5:Int):Option (Bool):=
 cond (aH x5 (List.length x0:Int)) (cond (aJ x5 (List.length x0)) (cond (aJ x5 (List.length x1)) (cond (!(la (.pair (.int .i64) (.pair (.int .i64) (.pair (.int .i64) .unit))) (List.getD x0 x5.toNat aS) (List.getD x1 x5.toNat aS))) (some false) (bt x0 x1 (W .i64 (x5+1)))) (none)) (none)) (some true)
def vn.l4(N:Nat):Nat→vn.aW
 |0,_,_,_=>none
 |n+1,x0,x1,x5=>vn.cn N (vn.l4 N n) x0 x1 x5
def vn.b(N:Nat)(cW:vn.aW)(a0:aj)(a1:aj):Option (Bool):=
 cond (!az (List.length a0:Int) (List.length a1:Int)) (some false) (cW a0 a1 (0:Int))
def vn(N:Nat)(a0:aj)(a1:aj):Option (Bool):=vn.b N (vn.l4 N N) a0 a1
abbrev vm.aW:=aj→aj→Int→Option (Bool)
def vm.cn(N:Nat)(bt:vm.aW)(x0:aj)(x1:aj)(x5:Int):Option (Bool):=
 cond (aH x5 (List.length x0:Int)) (cond (aJ x5 (List.length x0)) (cond (aJ x5 (List.length x1)) (cond (!(la (.pair (.int .i64) (.pair (.int .i64) (.pair (.int .i64) .unit))) (List.getD x0 x5.toNat aS) (List.getD x1 x5.toNat aS))) (some false) (bt x0 x1 (W .i64 (x5+1)))) (none)) (none)) (some true)
def vm.l4(N:Nat):Nat→vm.aW
 |0,_,_,_=>none
 |n+1,x0,x1,x5=>vm.cn N (vm.l4 N n) x0 x1 x5
def vm.b(N:Nat)(cW:vm.aW)(a0:aj)(a1:aj):Option (Bool):=
 cond (!az (List.length a0:Int) (List.length a1:Int)) (some false) (cW a0 a1 (0:Int))
def vm(N:Nat)(a0:aj)(a1:aj):Option (Bool):=vm.b N (vm.l4 N N) a0 a1
def F26(N:Nat):Option (Bool):=
 (F86 N).bind fun r1=>(lI N r1.1 r1.2 (0:Int)).bind fun r2=>(xO N r1.1 r1.2).bind fun r3=>(lI N r1.1 r1.2 (1:Int)).bind fun r4=>cond (az r2.2 0) ((vn N r2.1 ([((0:Int),((0:Int),((-3:Int),()))),((1:Int),((0:Int),((2:Int),()))),((2:Int),((0:Int),((1:Int),())))])).bind fun r5=>cond (r5) (cond (az r3.2 0) ((vm N r3.1.2.2.2.1 ([((1:Int),((0:Int),((-2:Int),()))),((2:Int),((0:Int),((-1:Int),()))),((3:Int),((0:Int),((3:Int),())))])).bind fun r6=>cond (r6) (some (az r4.2 3)) (some false)) (some false)) (some false)) (some false)
def F13(N:Nat)(a0:List (Int)):Option aM:=
 some (a0,((0:Int),()))
def F42(N:Nat)(a0:aM):Option ((Int)×aM):=
 cond (aH a0.2.1 (List.length a0.1:Int)) (cond (aJ a0.2.1 (List.length a0.1)) (some (List.getD a0.1 a0.2.1.toNat (0:Int),(a0.1,((W .i64 (a0.2.1+1)),a0.2.2)))) (none)) (some ((0:Int),(a0.1,((W .i64 (a0.2.1+1)),a0.2.2))))
def oq(N:Nat)(a0:aM)(a1:Int):Option ((Int)×aM):=
 (F42 N a0).bind fun r1=>let v2:Int:=W .u64 a1;cond (az v2 0) (none) (some ((W .i64 (rem r1.1 v2)),r1.2))
def QU(N:Nat)(a0:aM)(a1:Int):Option ((Bool)×aM):=
 (oq N a0 a1).bind fun r1=>some (az r1.1 (W .i64 (a1-1)),r1.2)
def H7(N:Nat)(a0:aM):Option ((Int)×aM):=
 (F42 N a0).bind fun r1=>cond (az 8 0) (none) (let v2:Int:=rem r1.1 8;cond (az v2 0) (cond (aH 1 0) (none) (some ((W .i64 (shr .u64 r1.1 1)),r1.2))) (cond (az v2 1) (cond (aH 3 0) (none) (cond (az 1000000000000 0) (none) (some ((W .i64 (rem (shr .u64 r1.1 3) 1000000000000)),r1.2)))) (cond (az v2 2) (cond (aH 3 0) (none) (cond (az 2 0) (none) (some ((W .i64 (rem (shr .u64 r1.1 3) 2)),r1.2)))) (cond (aH 3 0) (none) (cond (az 5000 0) (none) (some ((W .i64 (rem (shr .u64 r1.1 3) 5000)),r1.2)))))))
abbrev pQ.Jy:=aM→ae→ae→aE→Int→bR→Option (ae×aM)
abbrev pQ.ch:=aM→ae→ae→aE→Int→Option (ae×aM)
def pQ.H6(N:Nat)(bU:pQ.ch)(x0:aM)(x2:ae)(x3:ae)(MU:aE)(x4:Int)(x5:bR):Option (ae×aM):=
 (QU N x0 (12:Int)).bind fun oz=>cond (oz.1) ((H7 N oz.2).bind fun sN=>cond (az 1000000001 0) (none) (let Ql:Int:=rem sN.1 1000000001;(H7 N sN.2).bind fun vo=>cond (az 1000000001 0) (none) (let v18:Int:=rem vo.1 1000000001;cond (small (List.length MU+List.length ([(x5.1,(x5.2.1,(Ql,(v18,x5.2.2.2.2))))]))) (bU vo.2 x2 (cL,x3.2) (MU++([(x5.1,(x5.2.1,(Ql,(v18,x5.2.2.2.2))))])) (W .i64 (x4-1))) (none)))) (cond (small (List.length MU+List.length ([x5]))) (bU oz.2 x2 (cL,x3.2) (MU++([x5])) (W .i64 (x4-1))) (none))
def pQ.j8(N:Nat)(bU:pQ.ch)(x0:aM)(x2:ae)(x3:ae)(MU:aE)(x4:Int)(x5:bR):Option (ae×aM):=pQ.H6 N bU x0 x2 x3 MU x4 x5
def pQ.g7(N:Nat)(Af:pQ.Jy)(bU:pQ.ch)(x0:aM)(x2:ae)(x3:ae)(MU:aE)(x4:Int):Option (ae×aM):=
 cond (aH 0 x4) ((oq N x0 (3:Int)).bind fun r4=>(oq N r4.2 (300:Int)).bind fun r5=>(oq N r5.2 (12:Int)).bind fun r7=>(oq N r7.2 (6:Int)).bind fun r8=>(QU N r8.2 (12:Int)).bind fun r9=>cond (r9.1) ((H7 N r9.2).bind fun jK=>cond (az 1000000000000 0) (none) (Af jK.2 x2 x3 MU x4 (r4.1,((W .i64 ((1:Int)+(rem jK.1 1000000000000))),(r7.1,(r8.1,())))))) (Af r9.2 x2 x3 MU x4 (r4.1,((W .i64 ((1:Int)+r5.1)),(r7.1,(r8.1,())))))) ((oq N x0 (300:Int)).bind fun Ab=>(oq N Ab.2 (5:Int)).bind fun Ec=>(oq N Ec.2 (3:Int)).bind fun Ed=>(oq N Ed.2 (3:Int)).bind fun xc=>(oq N xc.2 (20:Int)).bind fun MV=>let v28:Int:=W .i64 ((1:Int)+MV.1);(oq N MV.2 (100:Int)).bind fun Cq=>(QU N Cq.2 (15:Int)).bind fun Jz=>cond (Jz.1) ((H7 N Jz.2).bind fun KY=>some ((MU,(KY.1,(Ec.1,(Ed.1,(xc.1,(v28,(Cq.1,x3.2.2.2.2.2.2.2))))))),KY.2)) (some ((MU,(Ab.1,(Ec.1,(Ed.1,(xc.1,(v28,(Cq.1,x3.2.2.2.2.2.2.2))))))),Jz.2)))
def pQ.l3(N:Nat):Nat→pQ.ch
 |0,_,_,_,_,_=>none
 |n+1,x0,x2,x3,MU,x4=>pQ.g7 N (pQ.j8 N (pQ.l3 N n)) (pQ.l3 N n) x0 x2 x3 MU x4
def pQ.b(N:Nat)(iN:pQ.ch)(a0:aM):Option (ae×aM):=
 (oq N a0 (4:Int)).bind fun r1=>iN r1.2 (cL,eB) (cL,eB) cL (W .i64 ((1:Int)+r1.1))
def pQ(N:Nat)(a0:aM):Option (ae×aM):=pQ.b N (pQ.l3 N N) a0
abbrev dB.dW:=aM→fO→Int→Option (fO×aM)
abbrev dB.kp:=aM→fO→Int→Option (fO×aM)
abbrev dB.ch:=aM→fO→Int→Option (fO×aM)
def dB.jO(N:Nat)(fk:dB.dW)(x0:aM)(x5:fO)(x8:Int):Option (fO×aM):=
 cond (bV x8 7) ((oq N x0 (3000:Int)).bind fun sN=>let Ql:Int:=W .i64 ((200:Int)+sN.1);(oq N sN.2 (200:Int)).bind fun vo=>let v18:Int:=W .i64 ((20:Int)+vo.1);cond (small (List.length x5+List.length ([((3:Int),((0:Int),(x8,((0:Int),((0:Int),((0:Int),(Ql,((0:Int),())))))))),((6:Int),((0:Int),(x8,((0:Int),((0:Int),((0:Int),(v18,((0:Int),()))))))))]))) (fk vo.2 (x5++([((3:Int),((0:Int),(x8,((0:Int),((0:Int),((0:Int),(Ql,((0:Int),())))))))),((6:Int),((0:Int),(x8,((0:Int),((0:Int),((0:Int),(v18,((0:Int),()))))))))])) (W .i64 (x8+1))) (none)) (some (x5,x0))
def dB.lz(N:Nat):Nat→dB.dW
 |0,_,_,_=>none
 |n+1,x0,x5,x8=>dB.jO N (dB.lz N n) x0 x5 x8
def dB.vk(N:Nat)(oX:dB.dW)(oY:dB.kp)(x0:aM)(x5:fO)(x7:Int):Option (fO×aM):=
 cond (bV x7 7) ((oq N x0 (2:Int)).bind fun jK=>let v11:Int:=W .i64 ((1:Int)+jK.1);cond (small (List.length x5+List.length ([((2:Int),(v11,(x7,((0:Int),((2:Int),aS)))))]))) (oY jK.2 (x5++([((2:Int),(v11,(x7,((0:Int),((2:Int),aS)))))])) (W .i64 (x7+1))) (none)) (oX x0 x5 (1:Int))
def dB.l9(N:Nat):Nat→dB.kp
 |0,_,_,_=>none
 |n+1,x0,x5,x7=>dB.vk N (dB.lz N N) (dB.l9 N n) x0 x5 x7
def dB.g7(N:Nat)(we:dB.kp)(bU:dB.ch)(x0:aM)(x5:fO)(x6:Int):Option (fO×aM):=
 cond (bV x6 4) (cond (small (List.length x5+List.length ([((1:Int),(x6,eB)),((2:Int),(x6,(x6,((0:Int),((1:Int),aS)))))]))) (let v2:List ((Int)×((Int)×((Int)×((Int)×((Int)×((Int)×((Int)×((Int)×(Unit))))))))):=x5++([((1:Int),(x6,eB)),((2:Int),(x6,(x6,((0:Int),((1:Int),aS)))))]);(QU N x0 (5:Int)).bind fun r3=>cond (!r3.1) ((oq N r3.2 (400:Int)).bind fun r4=>let v5:Int:=W .i64 ((1:Int)+r4.1);cond (small (List.length v2+List.length ([((5:Int),(x6,((0:Int),((0:Int),((0:Int),((0:Int),(v5,((0:Int),()))))))))]))) (bU r4.2 (v2++([((5:Int),(x6,((0:Int),((0:Int),((0:Int),((0:Int),(v5,((0:Int),()))))))))])) (W .i64 (x6+1))) (none)) (bU r3.2 v2 (W .i64 (x6+1)))) (none)) (we x0 x5 (5:Int))
def dB.l3(N:Nat):Nat→dB.ch
 |0,_,_,_=>none
 |n+1,x0,x5,x6=>dB.g7 N (dB.l9 N N) (dB.l3 N n) x0 x5 x6
def dB.b(N:Nat)(iN:dB.ch)(a0:aM)(a1:ae):Option (fO×aM):=
 iN a0 ([]) (1:Int)
def dB(N:Nat)(a0:aM)(a1:ae):Option (fO×aM):=dB.b N (dB.l3 N N) a0 a1
def Mr(N:Nat)(a0:aM)(a1:ae)(a2:Int):Option (fA×aM):=
 cond (aJ a2 (List.length a1.1)) ((oq N a0 (61:Int)).bind fun r1=>(QU N r1.2 (20:Int)).bind fun r6=>cond (r6.1) ((H7 N r6.2).bind fun r7=>cond (az 1000000000000 0) (none) (some (((9:Int),((0:Int),((0:Int),(a2,((0:Int),((0:Int),((0:Int),((W .i64 ((1:Int)+(rem r7.1 1000000000000))),())))))))),r7.2))) (some (((9:Int),((0:Int),((0:Int),(a2,((0:Int),((0:Int),((0:Int),((mx 1 (mn 1000000000000 (W .i64 ((W .i64 ((((List.getD a1.1 a2.toNat aN).2).1)+r1.1))-30)))),())))))))),r6.2))) (none)
def Pp(N:Nat)(a0:aM)(a1:ae):Option (fA×aM):=
 (oq N a0 (List.length a1.1:Int)).bind fun r1=>(oq N r1.2 (7:Int)).bind fun r2=>let v3:Int:=W .i64 ((1:Int)+r2.1);(oq N r2.2 (2:Int)).bind fun r4=>let v5:Int:=W .i64 ((1:Int)+r4.1);(oq N r4.2 (30:Int)).bind fun r6=>cond (aJ r1.1 (List.length a1.1)) ((oq N r6.2 (21:Int)).bind fun r8=>(QU N r8.2 (30:Int)).bind fun nK=>cond (nK.1) ((H7 N nK.2).bind fun oz=>cond (az 1000000000 0) (none) ((H7 N oz.2).bind fun vo=>cond (az 1000000000000 0) (none) (some (((7:Int),((0:Int),(v3,(r1.1,(v5,((0:Int),((W .i64 ((1:Int)+(rem oz.1 1000000000))),((W .i64 ((1:Int)+(rem vo.1 1000000000000))),())))))))),vo.2)))) (some (((7:Int),((0:Int),(v3,(r1.1,(v5,((0:Int),((W .i64 ((1:Int)+r6.1)),((mx 1 (mn 1000000000000 (W .i64 ((W .i64 ((((List.getD a1.1 r1.1.toNat aN).2).1)+r8.1))-10)))),())))))))),nK.2))) (none)
def Pq(N:Nat)(a0:aM)(a1:ae):Option (fA×aM):=
 (oq N a0 (4:Int)).bind fun r1=>let v2:Int:=W .i64 ((1:Int)+r1.1);(oq N r1.2 (7:Int)).bind fun r3=>let v4:Int:=W .i64 ((1:Int)+r3.1);(oq N r3.2 (List.length a1.1:Int)).bind fun r5=>(oq N r5.2 (36:Int)).bind fun r6=>let v7:Int:=W .i64 ((1:Int)+r6.1);cond (az v7 1) (some ((v7,(v2,eB)),r6.2)) (cond (az v7 11) (some ((v7,(v2,eB)),r6.2)) (cond (az v7 12) (some ((v7,(v2,eB)),r6.2)) (cond (az v7 13) (some ((v7,(v2,eB)),r6.2)) (cond (az v7 2) ((oq N r6.2 (2:Int)).bind fun r8=>some ((v7,(v2,(v4,((0:Int),((W .i64 ((1:Int)+r8.1)),aS))))),r8.2)) (cond (az v7 3) ((H7 N r6.2).bind fun jK=>some ((v7,((0:Int),(v4,((0:Int),((0:Int),((0:Int),((mx jK.1 1),((0:Int),())))))))),jK.2)) (cond (az v7 4) ((H7 N r6.2).bind fun mv=>some ((v7,((0:Int),(v4,((0:Int),((0:Int),((0:Int),((mx mv.1 1),((0:Int),())))))))),mv.2)) (cond (az v7 5) ((H7 N r6.2).bind fun oz=>some ((v7,(v2,((0:Int),((0:Int),((0:Int),((0:Int),((mx oz.1 1),((0:Int),())))))))),oz.2)) (cond (az v7 22) ((H7 N r6.2).bind fun wc=>some ((v7,(v2,((0:Int),((0:Int),((0:Int),((0:Int),((mx wc.1 1),((0:Int),())))))))),wc.2)) (cond (az v7 6) ((H7 N r6.2).bind fun vp=>cond (az 1000000000001 0) (none) (some ((v7,((0:Int),(v4,((0:Int),((0:Int),((0:Int),((rem vp.1 1000000000001),((0:Int),())))))))),vp.2))) (cond (az v7 8) ((oq N r6.2 (40:Int)).bind fun Gw=>some ((v7,((0:Int),(v4,((0:Int),((0:Int),((W .i64 ((1:Int)+Gw.1)),cc)))))),Gw.2)) (cond (az v7 9) ((Mr N r6.2 a1 r5.1).bind fun Ib=>some (Ib.1,Ib.2)) (cond (az v7 10) ((oq N r6.2 (3:Int)).bind fun Ab=>some ((v7,((0:Int),((0:Int),((0:Int),((0:Int),((0:Int),((W .i64 ((1:Int)+Ab.1)),((0:Int),())))))))),Ab.2)) (cond (az v7 14) (some ((v7,(v2,(v4,jY))),r6.2)) (cond (az v7 15) (some ((v7,XF),r6.2)) (cond (az v7 16) (some ((v7,XF),r6.2)) (cond (az v7 18) (some ((v7,XF),r6.2)) (cond (az v7 20) (some ((v7,XF),r6.2)) (cond (az v7 21) (some ((v7,XF),r6.2)) (cond (az v7 17) ((oq N r6.2 (60:Int)).bind fun Ed=>(oq N Ed.2 (20:Int)).bind fun MV=>cond (aJ r5.1 (List.length a1.1)) (some ((v7,((0:Int),(v4,((0:Int),((0:Int),((W .i64 ((1:Int)+Ed.1)),((W .i64 ((1:Int)+MV.1)),(((List.getD a1.1 r5.1.toNat aN).2).1,())))))))),MV.2)) (none)) (cond (az v7 19) ((oq N r6.2 (60:Int)).bind fun Cq=>(oq N Cq.2 (80:Int)).bind fun KY=>some ((v7,(v2,((0:Int),((0:Int),((0:Int),((W .i64 ((1:Int)+Cq.1)),((0:Int),((W .i64 (KY.1-60)),())))))))),KY.2)) ((Pp N r6.2 a1).bind fun r33=>some (r33.1,r33.2))))))))))))))))))))))
abbrev yu.ch:=aM→ae→fO→Int→Option (fO×aM)
def yu.g7(N:Nat)(bU:yu.ch)(x0:aM)(x4:ae)(x7:fO)(x8:Int):Option (fO×aM):=
 cond (aH 0 x8) ((oq N x0 (8:Int)).bind fun r5=>cond (az r5.1 0) ((Pq N r5.2 x4).bind fun r6=>cond (small (List.length x7+List.length ([r6.1]))) (bU r6.2 x4 (x7++([r6.1])) (W .i64 (x8-1))) (none)) (cond (az r5.1 1) ((oq N r5.2 (List.length x4.1:Int)).bind fun r9=>(Mr N r9.2 x4 r9.1).bind fun jK=>cond (small (List.length x7+List.length ([jK.1]))) (bU jK.2 x4 (x7++([jK.1])) (W .i64 (x8-1))) (none)) ((Pp N r5.2 x4).bind fun nK=>cond (small (List.length x7+List.length ([nK.1]))) (bU nK.2 x4 (x7++([nK.1])) (W .i64 (x8-1))) (none)))) (some (x7,x0))
def yu.l3(N:Nat):Nat→yu.ch
 |0,_,_,_,_=>none
 |n+1,x0,x4,x7,x8=>yu.g7 N (yu.l3 N n) x0 x4 x7 x8
def yu.b(N:Nat)(iN:yu.ch)(a0:aM)(a1:ae)(a2:Int):Option (fO×aM):=
 (dB N a0 a1).bind fun r1=>(oq N r1.2 (W .i64 (a2+1))).bind fun r3=>iN r3.2 a1 r1.1 r3.1
def yu(N:Nat)(a0:aM)(a1:ae)(a2:Int):Option (fO×aM):=yu.b N (yu.l3 N N) a0 a1 a2
abbrev xN.ch:=aM→ae→fO→Int→Option (fO×aM)
def xN.g7(N:Nat)(bU:xN.ch)(x0:aM)(x3:ae)(x5:fO)(x6:Int):Option (fO×aM):=
 cond (aH 0 x6) ((QU N x0 (2:Int)).bind fun r3=>cond (r3.1) ((oq N r3.2 (List.length x3.1:Int)).bind fun r4=>(Mr N r4.2 x3 r4.1).bind fun r5=>cond (small (List.length x5+List.length ([r5.1]))) (bU r5.2 x3 (x5++([r5.1])) (W .i64 (x6-1))) (none)) ((Pq N r3.2 x3).bind fun r8=>cond (small (List.length x5+List.length ([r8.1]))) (bU r8.2 x3 (x5++([r8.1])) (W .i64 (x6-1))) (none))) (some (x5,x0))
def xN.l3(N:Nat):Nat→xN.ch
 |0,_,_,_,_=>none
 |n+1,x0,x3,x5,x6=>xN.g7 N (xN.l3 N n) x0 x3 x5 x6
def xN.b(N:Nat)(iN:xN.ch)(a0:aM)(a1:ae):Option (fO×aM):=
 (oq N a0 (3:Int)).bind fun r1=>iN r1.2 a1 ([]) r1.1
def xN(N:Nat)(a0:aM)(a1:ae):Option (fO×aM):=xN.b N (xN.l3 N N) a0 a1
def A6(N:Nat)(a0:Int)(a1:Int)(a2:Int):Option (Bool):=
 cond (bV a1 a0) (some (bV a0 a2)) (some false)
abbrev iH.aW:=ae→Int→Option (Bool)
def iH.cn(N:Nat)(bt:iH.aW)(x1:ae)(x3:Int):Option (Bool):=
 cond (aH x3 (List.length x1.1:Int)) (cond (aJ x3 (List.length x1.1)) ((A6 N ((List.getD x1.1 x3.toNat aN).1) (0:Int) (3:Int)).bind fun r2=>cond (!r2) (some false) ((A6 N (((List.getD x1.1 x3.toNat aN).2).1) (1:Int) (1000000000000:Int)).bind fun r3=>cond (!r3) (some false) ((A6 N ((((List.getD x1.1 x3.toNat aN).2).2).1) (0:Int) (1000000000:Int)).bind fun r4=>cond (!r4) (some false) ((A6 N (((((List.getD x1.1 x3.toNat aN).2).2).2).1) (0:Int) (1000000000:Int)).bind fun r5=>cond (!r5) (some false) (bt x1 (W .i64 (x3+1))))))) (none)) (cond (bV 0 x1.2.1) ((A6 N x1.2.2.1 (0:Int) (4:Int)).bind fun r7=>cond (r7) ((A6 N x1.2.2.2.1 (0:Int) (1000000:Int)).bind fun r8=>cond (r8) ((A6 N x1.2.2.2.2.1 (0:Int) (1000000:Int)).bind fun r9=>cond (r9) ((A6 N x1.2.2.2.2.2.1 (1:Int) (4611686018427387904:Int)).bind fun jK=>cond (jK) (some (bV 0 x1.2.2.2.2.2.2.1)) (some false)) (some false)) (some false)) (some false)) (some false))
def iH.l4(N:Nat):Nat→iH.aW
 |0,_,_=>none
 |n+1,x1,x3=>iH.cn N (iH.l4 N n) x1 x3
def iH.b(N:Nat)(cW:iH.aW)(a0:ae):Option (Bool):=
 cond (aH (List.length a0.1:Int) 1) (some false) (cond (aH 6 (List.length a0.1:Int)) (some false) (cW a0 (0:Int)))
def iH(N:Nat)(a0:ae):Option (Bool):=iH.b N (iH.l4 N N) a0
abbrev gu.cN:=ae→ah→ah→(List (Int))→Int→Option (ah×(Int))
abbrev gu.Qm:=ae→ah→ah→(List (Int))→Option (ah×(Int))
def gu.ll(N:Nat)(cE:gu.cN)(x1:ae)(x2:ah)(x4:ah)(Tn:List (Int))(x5:Int):Option (ah×(Int)):=
 cond (aH x5 (List.length x1.1:Int)) (cond (aJ x5 (List.length x1.1)) (cond (small (List.length Tn+List.length ([((List.getD x1.1 x5.toNat aN).2).1]))) (cE x1 x2 (x4.1,(x4.2.1,(x4.2.2.1,(x4.2.2.2.1,(c4,x4.2.2.2.2.2))))) (Tn++([((List.getD x1.1 x5.toNat aN).2).1])) (W .i64 (x5+1))) (none)) (none)) (some ((x4.1,(x4.2.1,(x4.2.2.1,(x4.2.2.2.1,(Tn,x4.2.2.2.2.2))))),(0:Int)))
def gu.l7(N:Nat):Nat→gu.cN
 |0,_,_,_,_,_=>none
 |n+1,x1,x2,x4,Tn,x5=>gu.ll N (gu.l7 N n) x1 x2 x4 Tn x5
def gu.Nc(N:Nat)(nx:gu.cN)(x1:ae)(x2:ah)(x4:ah)(Tn:List (Int)):Option (ah×(Int)):=
 nx x1 x2 x4 Tn (0:Int)
def gu.j6(N:Nat)(x1:ae)(x2:ah)(x4:ah)(Tn:List (Int)):Option (ah×(Int)):=gu.Nc N (gu.l7 N N) x1 x2 x4 Tn
def gu.b(N:Nat)(DO:gu.Qm)(a0:ae):Option (ah×(Int)):=
 (iH N a0).bind fun r1=>cond (!r1) (some ((bK,(cL,(bp,(bp,(c4,(c9,())))))),(1:Int))) (cond (!az a0.2.1 0) (DO a0 (bK,(cL,(bp,(bp,(c4,(c9,())))))) (bK,(cL,([((1:Int),((0:Int),((W .i64 (0-a0.2.1)),()))),((3:Int),((0:Int),(a0.2.1,())))],(bp,(c4,(c9,())))))) c4) (DO a0 (bK,(cL,(bp,(bp,(c4,(c9,())))))) (bK,(cL,(bp,(bp,(c4,(c9,())))))) c4))
def gu(N:Nat)(a0:ae):Option (ah×(Int)):=gu.b N (gu.j6 N) a0
def aag(N:Nat)(a0:ae):Option (aO×(Int)):=
 (gu N a0).bind fun r1=>cond (!az r1.2 0) (some (((0:Int),((0:Int),((bK,(cL,(bp,(bp,(c4,(c9,())))))),(((0:Int),((0:Int),((0:Int),((0:Int),(cL,(([]:List ((Int)×((List ((Int)×((Int)×(Unit))))×((Int)×((Int)×((Int)×((Int)×(Unit)))))))),(cL,(c4,(bK,(bK,())))))))))),(((0:Int),((0:Int),(xY,((0:Int),())))),()))))),r1.2)) (some (((0:Int),((1:Int),(r1.1,(((0:Int),((0:Int),((0:Int),((0:Int),(cL,(([]:List ((Int)×((List ((Int)×((Int)×(Unit))))×((Int)×((Int)×((Int)×((Int)×(Unit)))))))),(cL,(c4,(bK,(bK,())))))))))),(((0:Int),((0:Int),(xY,((0:Int),())))),()))))),(0:Int)))
def Z6(N:Nat)(a0:Int):Option (Bool):=
 cond (bV 1 a0) (some (bV a0 22)) (some false)
def SK(N:Nat)(a0:Int):Option (ByteArray):=
 cond (az a0 1) (some (strOf [77])) (cond (az a0 11) (some (strOf [77])) (cond (az a0 12) (some (strOf [77])) (cond (az a0 13) (some (strOf [77])) (cond (az a0 2) (some (strOf [77,65,83])) (cond (az a0 3) (some (strOf [65,81])) (cond (az a0 4) (some (strOf [65,81])) (cond (az a0 6) (some (strOf [65,81])) (cond (az a0 5) (some (strOf [77,81])) (cond (az a0 22) (some (strOf [77,81])) (cond (az a0 7) (some (strOf [65,73,83,81,80])) (cond (az a0 8) (some (strOf [65,68])) (cond (az a0 9) (some (strOf [73,80])) (cond (az a0 10) (some (strOf [81])) (cond (az a0 14) (some (strOf [77,65])) (cond (az a0 17) (some (strOf [65,68,81,80])) (cond (az a0 19) (some (strOf [77,68,80])) (some (strOf []))))))))))))))))))
def Z4(N:Nat)(a0:Int):Option ((Int)×(Int)):=
 cond (az a0 6) (some ((0:Int),(1000000000000:Int))) (cond (az a0 7) (some ((1:Int),(1000000000:Int))) (cond (az a0 17) (some ((1:Int),(1000000000:Int))) (cond (az a0 10) (some ((1:Int),(1000000:Int))) (some ((1:Int),(9223372036854775807:Int))))))
def Z5(N:Nat)(a0:Int):Option ((Int)×(Int)):=
 cond (az a0 19) (some ((-1152921504606846976:Int),(1152921504606846976:Int))) (some ((1:Int),(1000000000000:Int)))
def SL(N:Nat)(a0:Int)(a1:Int):Option ((Int)×(Int)):=
 cond (az a1 77) (some ((1:Int),(12:Int))) (cond (az a1 65) (some ((1:Int),(24:Int))) (cond (az a1 73) (some ((0:Int),(5:Int))) (cond (az a1 83) (some ((1:Int),(2:Int))) (cond (az a1 68) (some ((1:Int),(1099511627776:Int))) (cond (az a1 81) ((Z4 N a0).bind fun r1=>some (r1.1,r1.2)) ((Z5 N a0).bind fun r2=>some (r2.1,r2.2)))))))
def SM(N:Nat)(a0:fA)(a1:Int):Option (Int):=
 cond (az a1 77) (some a0.2.1) (cond (az a1 65) (some a0.2.2.1) (cond (az a1 73) (some a0.2.2.2.1) (cond (az a1 83) (some a0.2.2.2.2.1) (cond (az a1 68) (some a0.2.2.2.2.2.1) (cond (az a1 81) (some a0.2.2.2.2.2.2.1) (some a0.2.2.2.2.2.2.2.1))))))
def SN(N:Nat)(a0:fA)(a1:Int)(a2:Int):Option fA:=
 cond (az a1 77) (some (a0.1,(a2,a0.2.2))) (cond (az a1 65) (some (a0.1,(a0.2.1,(a2,a0.2.2.2)))) (cond (az a1 73) (some (a0.1,(a0.2.1,(a0.2.2.1,(a2,a0.2.2.2.2))))) (cond (az a1 83) (some (a0.1,(a0.2.1,(a0.2.2.1,(a0.2.2.2.1,(a2,a0.2.2.2.2.2)))))) (cond (az a1 68) (some (a0.1,(a0.2.1,(a0.2.2.1,(a0.2.2.2.1,(a0.2.2.2.2.1,(a2,a0.2.2.2.2.2.2))))))) (cond (az a1 81) (some (a0.1,(a0.2.1,(a0.2.2.1,(a0.2.2.2.1,(a0.2.2.2.2.1,(a0.2.2.2.2.2.1,(a2,a0.2.2.2.2.2.2.2)))))))) (some (a0.1,(a0.2.1,(a0.2.2.1,(a0.2.2.2.1,(a0.2.2.2.2.1,(a0.2.2.2.2.2.1,(a0.2.2.2.2.2.2.1,(a2,a0.2.2.2.2.2.2.2.2))))))))))))))
abbrev m6.fg:=fA→ByteArray→fA→Int→Option (Bool)
def m6.ow(N:Nat)(fP:m6.fg)(x1:fA)(x3:ByteArray)(x4:fA)(x5:Int):Option (Bool):=
 cond (aH x5 (ByteArray.size x3:Int)) (cond (aJ x5 (ByteArray.size x3)) ((SL N x1.1 ((x3.data.getD x5.toNat 0).toNat:Int)).bind fun r4=>cond (aJ x5 (ByteArray.size x3)) ((SM N x1 ((x3.data.getD x5.toNat 0).toNat:Int)).bind fun r5=>cond (aH r5 r4.1) (some false) (cond (aH r4.2 r5) (some false) (cond (aJ x5 (ByteArray.size x3)) ((SN N x4 ((x3.data.getD x5.toNat 0).toNat:Int) r5).bind fun r6=>fP x1 x3 r6 (W .i64 (x5+1))) (none)))) (none)) (none)) (some (la (.pair (.int .i64) (.pair (.int .i64) (.pair (.int .i64) (.pair (.int .i64) (.pair (.int .i64) (.pair (.int .i64) (.pair (.int .i64) (.pair (.int .i64) .unit)))))))) x4 x1))
def m6.l6(N:Nat):Nat→m6.fg
 |0,_,_,_,_=>none
 |n+1,x1,x3,x4,x5=>m6.ow N (m6.l6 N n) x1 x3 x4 x5
def m6.b(N:Nat)(pU:m6.fg)(a0:fA):Option (Bool):=
 (Z6 N a0.1).bind fun r1=>cond (!r1) (some false) ((SK N a0.1).bind fun r2=>pU a0 r2 (a0.1,XF) (0:Int))
def m6(N:Nat)(a0:fA):Option (Bool):=m6.b N (m6.l6 N N) a0
abbrev jL.bW:=ax→Int→Option (Bool)
def jL.eu(N:Nat)(c0:jL.bW)(x0:ax)(x3:Int):Option (Bool):=
 cond (aH x3 (List.length x0:Int)) (cond (aJ x3 (List.length x0)) (cond (aH ((List.getD x0 x3.toNat cc).1) (1:Int)) (some false) (cond (aJ x3 (List.length x0)) (cond (aH 12 ((List.getD x0 x3.toNat cc).1)) (some false) (cond (aJ x3 (List.length x0)) (cond (aH (((List.getD x0 x3.toNat cc).2).1) (1:Int)) (some false) (cond (aJ x3 (List.length x0)) (cond (aH 4 (((List.getD x0 x3.toNat cc).2).1)) (some false) (cond (aH 0 x3) (cond (aJ x3 (List.length x0)) (let v2:Int:=W .i64 (x3-1);cond (aJ v2 (List.length x0)) (cond (bV ((List.getD x0 x3.toNat cc).1) ((List.getD x0 v2.toNat cc).1)) (some false) (c0 x0 (W .i64 (x3+1)))) (none)) (none)) (c0 x0 (W .i64 (x3+1))))) (none))) (none))) (none))) (none)) (some true)
def jL.l2(N:Nat):Nat→jL.bW
 |0,_,_=>none
 |n+1,x0,x3=>jL.eu N (jL.l2 N n) x0 x3
def jL.b(N:Nat)(fB:jL.bW)(a0:ax):Option (Bool):=
 fB a0 (0:Int)
def jL(N:Nat)(a0:ax):Option (Bool):=jL.b N (jL.l2 N N) a0
abbrev je.bW:=ax→Int→Int→Option (Int)
def je.eu(N:Nat)(c0:je.bW)(x0:ax)(x1:Int)(x5:Int):Option (Int):=
 cond (aH x5 (List.length x0:Int)) (cond (aJ x5 (List.length x0)) (cond (az ((List.getD x0 x5.toNat cc).1) x1) (cond (aJ x5 (List.length x0)) (some (((List.getD x0 x5.toNat cc).2).1)) (none)) (c0 x0 x1 (W .i64 (x5+1)))) (none)) (some (0:Int))
def je.l2(N:Nat):Nat→je.bW
 |0,_,_,_=>none
 |n+1,x0,x1,x5=>je.eu N (je.l2 N n) x0 x1 x5
def je.b(N:Nat)(fB:je.bW)(a0:ax)(a1:Int):Option (Int):=
 fB a0 a1 (0:Int)
def je(N:Nat)(a0:ax)(a1:Int):Option (Int):=je.b N (je.l2 N N) a0 a1
abbrev gR.JA:=ax→Int→ax→Int→Option (ax×(Int))
abbrev gR.cN:=ax→Int→ax→Int→Option (ax×(Int))
def gR.IE(N:Nat)(x0:ax)(x1:Int)(x6:ax)(x7:Int):Option (ax×(Int)):=
 cond (fE 0 x7 (List.length x0:Int) (List.length x0:Int)) (let v6:List ((Int)×((Int)×(Unit))):=List.drop (0:Int).toNat (List.take x7.toNat x0);cond (small (List.length x6+List.length v6)) (let v7:List ((Int)×((Int)×(Unit))):=x6++v6;cond (small (List.length v7+List.length ([(x1,((1:Int),()))]))) (let v8:List ((Int)×((Int)×(Unit))):=v7++([(x1,((1:Int),()))]);cond (fE x7 (List.length x0:Int) (List.length x0:Int) (List.length x0:Int)) (let v9:List ((Int)×((Int)×(Unit))):=List.drop x7.toNat (List.take (List.length x0:Int).toNat x0);cond (small (List.length v8+List.length v9)) (some ((v8++v9),(0:Int))) (none)) (none)) (none)) (none)) (none)
def gR.j9(N:Nat)(x0:ax)(x1:Int)(x6:ax)(x7:Int):Option (ax×(Int)):=gR.IE N x0 x1 x6 x7
def gR.ll(N:Nat)(Am:gR.JA)(cE:gR.cN)(x0:ax)(x1:Int)(x6:ax)(x7:Int):Option (ax×(Int)):=
 cond (aH x7 (List.length x0:Int)) (cond (aJ x7 (List.length x0)) (cond (aH ((List.getD x0 x7.toNat cc).1) x1) (cE x0 x1 x6 (W .i64 (x7+1))) (Am x0 x1 x6 x7)) (none)) (Am x0 x1 x6 x7)
def gR.l7(N:Nat):Nat→gR.cN
 |0,_,_,_,_=>none
 |n+1,x0,x1,x6,x7=>gR.ll N (gR.j9 N) (gR.l7 N n) x0 x1 x6 x7
def gR.b(N:Nat)(nx:gR.cN)(a0:ax)(a1:Int):Option (ax×(Int)):=
 (jL N a0).bind fun r1=>cond (!r1) (some ([],(1:Int))) (cond (aH a1 1) (some ([],(1:Int))) (cond (aH 12 a1) (some ([],(1:Int))) ((je N a0 a1).bind fun r2=>cond (!az r2 0) (some ([],(4:Int))) (nx a0 a1 ([]) (0:Int)))))
def gR(N:Nat)(a0:ax)(a1:Int):Option (ax×(Int)):=gR.b N (gR.l7 N N) a0 a1
def dS(N:Nat)(a0:Int):Option cy:=
 some (a0,cc)
abbrev ix.fC:=aE→Int→bR→Int→Option (Bool)
abbrev ix.Jx:=aE→Int→bR→Option (Bool)
abbrev ix.bW:=aE→Int→Option (Bool)
def ix.yj(N:Nat)(c0:ix.bW)(dE:ix.fC)(x0:aE)(x3:Int)(x4:bR)(x5:Int):Option (Bool):=
 cond (aH x5 x3) (cond (az x4.2.2.1 1) (cond (aJ x5 (List.length x0)) (cond (az ((((List.getD x0 x5.toNat aN).2).2).1) (1:Int)) (cond (aJ x5 (List.length x0)) (cond (az (((List.getD x0 x5.toNat aN).2).1) x4.2.1) (some false) (dE x0 x3 x4 (W .i64 (x5+1)))) (none)) (dE x0 x3 x4 (W .i64 (x5+1)))) (none)) (dE x0 x3 x4 (W .i64 (x5+1)))) (c0 x0 (W .i64 (x3+1)))
def ix.l8(N:Nat)(c0:ix.bW):Nat→ix.fC
 |0,_,_,_,_=>none
 |n+1,x0,x3,x4,x5=>ix.yj N c0 (ix.l8 N c0 n) x0 x3 x4 x5
def ix.IB(N:Nat)(An:ix.fC)(c0:ix.bW)(x0:aE)(x3:Int)(x4:bR):Option (Bool):=
 An x0 x3 x4 (0:Int)
def ix.j7(N:Nat)(c0:ix.bW)(x0:aE)(x3:Int)(x4:bR):Option (Bool):=ix.IB N (ix.l8 N c0 N) c0 x0 x3 x4
def ix.eu(N:Nat)(wb:ix.Jx)(c0:ix.bW)(x0:aE)(x3:Int):Option (Bool):=
 cond (aH x3 (List.length x0:Int)) (cond (aJ x3 (List.length x0)) (cond (aH ((List.getD x0 x3.toNat aN).1) (1:Int)) (some false) (cond (aH 24 ((List.getD x0 x3.toNat aN).1)) (some false) (cond (aH (((List.getD x0 x3.toNat aN).2).1) (1:Int)) (some false) (cond (aH 12 (((List.getD x0 x3.toNat aN).2).1)) (some false) (cond (!az ((((List.getD x0 x3.toNat aN).2).2).1) (1:Int)) (cond (!az ((((List.getD x0 x3.toNat aN).2).2).1) (2:Int)) (some false) (cond (aH (((((List.getD x0 x3.toNat aN).2).2).2).1) (0:Int)) (some false) (cond (aH 1000000000000 (((((List.getD x0 x3.toNat aN).2).2).2).1)) (some false) (cond (aH 0 x3) (let v2:Int:=W .i64 (x3-1);cond (aJ v2 (List.length x0)) (cond (bV ((List.getD x0 x3.toNat aN).1) ((List.getD x0 v2.toNat aN).1)) (some false) (wb x0 x3 (List.getD x0 x3.toNat aN))) (none)) (wb x0 x3 (List.getD x0 x3.toNat aN)))))) (cond (aH (((((List.getD x0 x3.toNat aN).2).2).2).1) (0:Int)) (some false) (cond (aH 1000000000000 (((((List.getD x0 x3.toNat aN).2).2).2).1)) (some false) (cond (aH 0 x3) (let v9:Int:=W .i64 (x3-1);cond (aJ v9 (List.length x0)) (cond (bV ((List.getD x0 x3.toNat aN).1) ((List.getD x0 v9.toNat aN).1)) (some false) (wb x0 x3 (List.getD x0 x3.toNat aN))) (none)) (wb x0 x3 (List.getD x0 x3.toNat aN)))))))))) (none)) (some true)
def ix.l2(N:Nat):Nat→ix.bW
 |0,_,_=>none
 |n+1,x0,x3=>ix.eu N (ix.j7 N (ix.l2 N n)) (ix.l2 N n) x0 x3
def ix.b(N:Nat)(fB:ix.bW)(a0:aE):Option (Bool):=
 fB a0 (0:Int)
def ix(N:Nat)(a0:aE):Option (Bool):=ix.b N (ix.l2 N N) a0
abbrev kg.aW:=ax→aE→Int→Option (Bool)
def kg.cn(N:Nat)(bt:kg.aW)(x0:ax)(x1:aE)(x5:Int):Option (Bool):=
 cond (aH x5 (List.length x1:Int)) (cond (aJ x5 (List.length x1)) ((je N x0 (((List.getD x1 x5.toNat aN).2).1)).bind fun r4=>cond (az r4 0) (some false) (bt x0 x1 (W .i64 (x5+1)))) (none)) (some true)
def kg.l4(N:Nat):Nat→kg.aW
 |0,_,_,_=>none
 |n+1,x0,x1,x5=>kg.cn N (kg.l4 N n) x0 x1 x5
def kg.b(N:Nat)(cW:kg.aW)(a0:ax)(a1:aE):Option (Bool):=
 (jL N a0).bind fun r1=>cond (!r1) (some false) ((ix N a1).bind fun r2=>cond (!r2) (some false) (cW a0 a1 (0:Int)))
def kg(N:Nat)(a0:ax)(a1:aE):Option (Bool):=kg.b N (kg.l4 N N) a0 a1
abbrev jN.bW:=aE→Int→bR→Int→Option (bR×(Bool))
def jN.eu(N:Nat)(c0:jN.bW)(x0:aE)(x1:Int)(x4:bR)(x6:Int):Option (bR×(Bool)):=
 cond (aH x6 (List.length x0:Int)) (cond (aJ x6 (List.length x0)) (cond (az ((List.getD x0 x6.toNat aN).1) x1) (cond (aJ x6 (List.length x0)) (some (List.getD x0 x6.toNat aN,true)) (none)) (c0 x0 x1 x4 (W .i64 (x6+1)))) (none)) (some (aN,false))
def jN.l2(N:Nat):Nat→jN.bW
 |0,_,_,_,_=>none
 |n+1,x0,x1,x4,x6=>jN.eu N (jN.l2 N n) x0 x1 x4 x6
def jN.b(N:Nat)(fB:jN.bW)(a0:aE)(a1:Int):Option (bR×(Bool)):=
 fB a0 a1 aN (0:Int)
def jN(N:Nat)(a0:aE)(a1:Int):Option (bR×(Bool)):=jN.b N (jN.l2 N N) a0 a1
abbrev tb.aW:=aE→Int→Int→Option (Int)
def tb.cn(N:Nat)(bt:tb.aW)(x0:aE)(x1:Int)(x5:Int):Option (Int):=
 cond (aH x5 (List.length x0:Int)) (cond (aJ x5 (List.length x0)) (cond (az (((List.getD x0 x5.toNat aN).2).1) x1) (cond (aJ x5 (List.length x0)) (cond (az ((((List.getD x0 x5.toNat aN).2).2).1) (1:Int)) (cond (aJ x5 (List.length x0)) (some ((List.getD x0 x5.toNat aN).1)) (none)) (bt x0 x1 (W .i64 (x5+1)))) (none)) (bt x0 x1 (W .i64 (x5+1)))) (none)) (some (0:Int))
def tb.l4(N:Nat):Nat→tb.aW
 |0,_,_,_=>none
 |n+1,x0,x1,x5=>tb.cn N (tb.l4 N n) x0 x1 x5
def tb.b(N:Nat)(cW:tb.aW)(a0:aE)(a1:Int):Option (Int):=
 (ix N a0).bind fun r1=>cond (!r1) (some (0:Int)) (cW a0 a1 (0:Int))
def tb(N:Nat)(a0:aE)(a1:Int):Option (Int):=tb.b N (tb.l4 N N) a0 a1
abbrev eA.Ao:=aE→bR→aE→Int→Option (aE×(Int))
abbrev eA.dW:=aE→bR→aE→Int→Option (aE×(Int))
abbrev eA.Gx:=aE→bR→Option (aE×(Int))
def eA.tu(N:Nat)(x1:aE)(x5:bR)(aI:aE)(aL:Int):Option (aE×(Int)):=
 cond (fE 0 aL (List.length x1:Int) (List.length x1:Int)) (let v10:List ((Int)×((Int)×((Int)×((Int)×(Unit))))):=List.drop (0:Int).toNat (List.take aL.toNat x1);cond (small (List.length aI+List.length v10)) (let v11:List ((Int)×((Int)×((Int)×((Int)×(Unit))))):=aI++v10;cond (small (List.length v11+List.length ([x5]))) (let X9:List ((Int)×((Int)×((Int)×((Int)×(Unit))))):=v11++([x5]);cond (fE aL (List.length x1:Int) (List.length x1:Int) (List.length x1:Int)) (let Yg:List ((Int)×((Int)×((Int)×((Int)×(Unit))))):=List.drop aL.toNat (List.take (List.length x1:Int).toNat x1);cond (small (List.length X9+List.length Yg)) (some ((X9++Yg),(0:Int))) (none)) (none)) (none)) (none)) (none)
def eA.Bf(N:Nat)(x1:aE)(x5:bR)(aI:aE)(aL:Int):Option (aE×(Int)):=eA.tu N x1 x5 aI aL
def eA.jO(N:Nat)(p9:eA.Ao)(fk:eA.dW)(x1:aE)(x5:bR)(aI:aE)(aL:Int):Option (aE×(Int)):=
 cond (aH aL (List.length x1:Int)) (cond (aJ aL (List.length x1)) (cond (aH ((List.getD x1 aL.toNat aN).1) x5.1) (fk x1 x5 aI (W .i64 (aL+1))) (p9 x1 x5 aI aL)) (none)) (p9 x1 x5 aI aL)
def eA.lz(N:Nat):Nat→eA.dW
 |0,_,_,_,_=>none
 |n+1,x1,x5,aI,aL=>eA.jO N (eA.Bf N) (eA.lz N n) x1 x5 aI aL
def eA.zW(N:Nat)(oX:eA.dW)(x1:aE)(x5:bR):Option (aE×(Int)):=
 oX x1 x5 ([]) (0:Int)
def eA.H8(N:Nat)(x1:aE)(x5:bR):Option (aE×(Int)):=eA.zW N (eA.lz N N) x1 x5
def eA.b(N:Nat)(xd:eA.Gx)(a0:ax)(a1:aE)(a2:bR):Option (aE×(Int)):=
 (kg N a0 a1).bind fun r1=>cond (!r1) (some ([],(1:Int))) ((ix N ([a2])).bind fun r2=>cond (!r2) (some ([],(1:Int))) ((je N a0 a2.2.1).bind fun r3=>cond (az r3 0) (some ([],(3:Int))) (cond (!az r3 1) (some ([],(7:Int))) ((jN N a1 a2.1).bind fun r4=>cond (r4.2) (some ([],(4:Int))) (cond (az a2.2.2.1 1) ((tb N a1 a2.2.1).bind fun r5=>cond (!az r5 0) (some ([],(4:Int))) (xd a1 a2)) (xd a1 a2))))))
def eA(N:Nat)(a0:ax)(a1:aE)(a2:bR):Option (aE×(Int)):=eA.b N (eA.H8 N) a0 a1 a2
def zm(N:Nat)(a0:aE)(a1:Int):Option (bR×(Bool)):=
 (ix N a0).bind fun r1=>cond (!r1) (some (aN,false)) ((jN N a0 a1).bind fun r2=>some (r2.1,r2.2))
def PZ(N:Nat)(a0:aO)(a1:Int):Option (Bool):=
 (zm N a0.2.2.1.2.1 a1).bind fun r1=>some r1.2
abbrev kd.bW:=(List (Int))→Int→Option (List (Int))
def kd.eu(N:Nat)(c0:kd.bW)(x0:List (Int))(x3:Int):Option (List (Int)):=
 cond (aH 0 x3) (let v2:Int:=W .i64 (x3-1);cond (aJ v2 (List.length x0)) (cond (az (List.getD x0 v2.toNat (0:Int)) (0:Int)) (c0 x0 (W .i64 (x3-1))) (cond (fE 0 x3 x3 (List.length x0:Int)) (some (List.drop (0:Int).toNat (List.take x3.toNat x0))) (none))) (none)) (cond (fE 0 x3 x3 (List.length x0:Int)) (some (List.drop (0:Int).toNat (List.take x3.toNat x0))) (none))
def kd.l2(N:Nat):Nat→kd.bW
 |0,_,_=>none
 |n+1,x0,x3=>kd.eu N (kd.l2 N n) x0 x3
def kd.b(N:Nat)(fB:kd.bW)(a0:List (Int)):Option (List (Int)):=
 fB a0 (List.length a0:Int)
def kd(N:Nat)(a0:List (Int)):Option (List (Int)):=kd.b N (kd.l2 N N) a0
def F67(N:Nat)(a0:Int):Option (List (Int)):=
 cond (aH 32 0) (none) ((kd N ([(ja .and .u64 a0 4294967295),(shr .u64 a0 32)])).bind fun r3=>some r3)
def Ot(N:Nat)(a0:Bool)(a1:List (Int)):Option av:=
 (kd N a1).bind fun r1=>cond (a0) (some (aH 0 (List.length r1:Int),(r1,()))) (some (false,(r1,())))
def gl(N:Nat)(a0:Int):Option av:=
 let v1:Int:=W .u64 a0;cond (aH a0 0) ((F67 N (W .u64 (0-v1))).bind fun r3=>(Ot N (aH a0 0) r3).bind fun r4=>some r4) ((F67 N v1).bind fun r5=>(Ot N (aH a0 0) r5).bind fun r6=>some r6)
def Nd(N:Nat)(a0:av):Option av:=
 (Ot N (!a0.1) a0.2.1).bind fun r1=>some r1
def zX(N:Nat)(a0:Int)(a1:Int)(a2:Int)(a3:Int)(a4:av):Option bk:=
 (Nd N a4).bind fun r1=>some ([(a0,(a1,(r1,()))),(a2,(a3,(a4,())))])
def RS(N:Nat)(a0:List (Int))(a1:Int):Option (Int):=
 cond (aH a1 (List.length a0:Int)) (cond (aJ a1 (List.length a0)) (some (List.getD a0 a1.toNat (0:Int))) (none)) (some (0:Int))
abbrev p6.Qm:=(List (Int))→(List (Int))→(List (Int))→Int→Int→Option (List (Int))
abbrev p6.aW:=(List (Int))→(List (Int))→(List (Int))→Int→Int→Option (List (Int))
def p6.Nc(N:Nat)(bt:p6.aW)(x0:List (Int))(x1:List (Int))(x5:List (Int))(x6:Int)(x7:Int):Option (List (Int)):=
 (RS N x0 x7).bind fun r3=>(RS N x1 x7).bind fun r4=>let v6:Int:=W .u64 (x6+(W .u64 (r3+r4)));let v7:Int:=ja .and .u64 v6 4294967295;cond (small (List.length x5+List.length ([v7]))) (cond (aH 32 0) (none) (bt x0 x1 (x5++([v7])) (shr .u64 v6 32) (W .i64 (x7+1)))) (none)
def p6.j6(N:Nat)(bt:p6.aW)(x0:List (Int))(x1:List (Int))(x5:List (Int))(x6:Int)(x7:Int):Option (List (Int)):=p6.Nc N bt x0 x1 x5 x6 x7
def p6.cn(N:Nat)(DO:p6.Qm)(bt:p6.aW)(x0:List (Int))(x1:List (Int))(x5:List (Int))(x6:Int)(x7:Int):Option (List (Int)):=
 cond (aH x7 (List.length x0:Int)) (DO x0 x1 x5 x6 x7) (cond (aH x7 (List.length x1:Int)) (DO x0 x1 x5 x6 x7) (cond (aH 0 x6) (DO x0 x1 x5 x6 x7) (some x5)))
def p6.l4(N:Nat):Nat→p6.aW
 |0,_,_,_,_,_=>none
 |n+1,x0,x1,x5,x6,x7=>p6.cn N (p6.j6 N (p6.l4 N n)) (p6.l4 N n) x0 x1 x5 x6 x7
def p6.b(N:Nat)(cW:p6.aW)(a0:List (Int))(a1:List (Int)):Option (List (Int)):=
 cW a0 a1 ([]) (0:Int) (0:Int)
def p6(N:Nat)(a0:List (Int))(a1:List (Int)):Option (List (Int)):=p6.b N (p6.l4 N N) a0 a1
abbrev xz.fg:=(List (Int))→(List (Int))→Int→Option (Int)
def xz.ow(N:Nat)(fP:xz.fg)(x0:List (Int))(x1:List (Int))(x5:Int):Option (Int):=
 cond (bV 0 x5) (cond (aJ x5 (List.length x0)) (cond (aJ x5 (List.length x1)) (cond (aH (List.getD x0 x5.toNat (0:Int)) (List.getD x1 x5.toNat (0:Int))) (some (-1:Int)) (cond (aJ x5 (List.length x0)) (cond (aJ x5 (List.length x1)) (cond (aH (List.getD x1 x5.toNat (0:Int)) (List.getD x0 x5.toNat (0:Int))) (some (1:Int)) (fP x0 x1 (W .i64 (x5-1)))) (none)) (none))) (none)) (none)) (some (0:Int))
def xz.l6(N:Nat):Nat→xz.fg
 |0,_,_,_=>none
 |n+1,x0,x1,x5=>xz.ow N (xz.l6 N n) x0 x1 x5
def xz.b(N:Nat)(pU:xz.fg)(a0:List (Int))(a1:List (Int)):Option (Int):=
 cond (!az (List.length a0:Int) (List.length a1:Int)) (cond (aH (List.length a0:Int) (List.length a1:Int)) (some (-1:Int)) (some (1:Int))) (pU a0 a1 (W .i64 ((List.length a0:Int)-1)))
def xz(N:Nat)(a0:List (Int))(a1:List (Int)):Option (Int):=xz.b N (xz.l6 N N) a0 a1
abbrev yg.aW:=(List (Int))→(List (Int))→(List (Int))→Int→Int→Option (List (Int))
def yg.cn(N:Nat)(bt:yg.aW)(x0:List (Int))(x1:List (Int))(x5:List (Int))(x6:Int)(x7:Int):Option (List (Int)):=
 cond (aH x7 (List.length x0:Int)) (cond (aJ x7 (List.length x0)) ((RS N x1 x7).bind fun r2=>let v3:Int:=W .u64 (r2+x6);cond (aH (List.getD x0 x7.toNat (0:Int)) v3) (let v5:Int:=W .u64 ((W .u64 ((List.getD x0 x7.toNat (0:Int))+4294967296))-v3);cond (small (List.length x5+List.length ([v5]))) (bt x0 x1 (x5++([v5])) (1:Int) (W .i64 (x7+1))) (none)) (let v8:Int:=W .u64 ((List.getD x0 x7.toNat (0:Int))-v3);cond (small (List.length x5+List.length ([v8]))) (bt x0 x1 (x5++([v8])) (0:Int) (W .i64 (x7+1))) (none))) (none)) (some x5)
def yg.l4(N:Nat):Nat→yg.aW
 |0,_,_,_,_,_=>none
 |n+1,x0,x1,x5,x6,x7=>yg.cn N (yg.l4 N n) x0 x1 x5 x6 x7
def yg.b(N:Nat)(cW:yg.aW)(a0:List (Int))(a1:List (Int)):Option (List (Int)):=
 cW a0 a1 ([]) (0:Int) (0:Int)
def yg(N:Nat)(a0:List (Int))(a1:List (Int)):Option (List (Int)):=yg.b N (yg.l4 N N) a0 a1
def uk(N:Nat)(a0:av)(a1:av):Option av:=
 cond (la .bool a0.1 a1.1) ((p6 N a0.2.1 a1.2.1).bind fun r1=>(Ot N a0.1 r1).bind fun r2=>some r2) ((xz N a0.2.1 a1.2.1).bind fun r3=>cond (bV 0 r3) ((yg N a0.2.1 a1.2.1).bind fun r4=>(Ot N a0.1 r4).bind fun r5=>some r5) ((yg N a1.2.1 a0.2.1).bind fun r6=>(Ot N a1.1 r6).bind fun r7=>some r7))
def qQ(N:Nat)(a0:av):Option ((Int)×(Bool)):=
 cond (aH 2 (List.length a0.2.1:Int)) (some ((0:Int),false)) ((RS N a0.2.1 (0:Int)).bind fun r1=>(RS N a0.2.1 (1:Int)).bind fun r2=>cond (aH 32 0) (none) (let v4:Int:=ja .or .u64 r1 (W .u64 (shl .u64 r2 32));cond (a0.1) (cond (aH 9223372036854775808 v4) (some ((0:Int),false)) (some ((W .i64 (W .u64 (0-v4))),true))) (cond (aH 9223372036854775807 v4) (some ((0:Int),false)) (some ((W .i64 v4),true)))))
def IV(N:Nat)(a0:av):Option ((Int)×(Bool)):=
 (qQ N a0).bind fun r1=>cond (!r1.2) (some ((0:Int),false)) (cond (az r1.1 (-9223372036854775808)) (some ((0:Int),false)) (some (r1.1,true)))
abbrev bx.Ap:=aj→aj→aj→Int→Int→Int→Int→Bool→av→Int→Option (aj×(Bool))
abbrev bx.Gs:=aj→aj→aj→Int→Int→Int→Int→Bool→Option (aj×(Bool))
abbrev bx.cN:=aj→aj→aj→Int→Int→Int→Option (aj×(Bool))
abbrev bx.aW:=aj→aj→aj→Int→Int→Option (aj×(Bool))
def bx.Dp(N:Nat)(bt:bx.aW)(cE:bx.cN)(Cs:bx.Ap)(x0:aj)(x1:aj)(x6:aj)(x7:Int)(x8:Int)(x9:Int)(aQ:Int)(aI:Bool)(aL:av)(bo:Int):Option (aj×(Bool)):=
 cond (aH bo (List.length x1:Int)) (cond (aJ bo (List.length x1)) (cond (az ((List.getD x1 bo.toNat aS).1) x8) (cond (aJ bo (List.length x1)) (cond (az (((List.getD x1 bo.toNat aS).2).1) x9) (cond (aJ bo (List.length x1)) ((gl N ((((List.getD x1 bo.toNat aS).2).2).1)).bind fun r6=>(uk N aL r6).bind fun r7=>Cs x0 x1 x6 x7 x8 x9 aQ true r7 (W .i64 (bo+1))) (none)) (Cs x0 x1 x6 x7 x8 x9 aQ aI aL (W .i64 (bo+1)))) (none)) (Cs x0 x1 x6 x7 x8 x9 aQ aI aL (W .i64 (bo+1)))) (none)) (cond (aI) ((gl N aQ).bind fun kZ=>(uk N aL kZ).bind fun mv=>(IV N mv).bind fun nK=>cond (!nK.2) (some ([],false)) (cond (!az nK.1 0) (cond (small (List.length x6+List.length ([(x8,(x9,(nK.1,())))]))) (cE x0 x1 (x6++([(x8,(x9,(nK.1,())))])) x7 x8 (W .i64 (x9+1))) (none)) (cE x0 x1 x6 x7 x8 (W .i64 (x9+1))))) (cond (!az aQ 0) (cond (small (List.length x6+List.length ([(x8,(x9,(aQ,())))]))) (cE x0 x1 (x6++([(x8,(x9,(aQ,())))])) x7 x8 (W .i64 (x9+1))) (none)) (cE x0 x1 x6 x7 x8 (W .i64 (x9+1)))))
def bx.D9(N:Nat)(bt:bx.aW)(cE:bx.cN):Nat→bx.Ap
 |0,_,_,_,_,_,_,_,_,_,_=>none
 |n+1,x0,x1,x6,x7,x8,x9,aQ,aI,aL,bo=>bx.Dp N bt cE (bx.D9 N bt cE n) x0 x1 x6 x7 x8 x9 aQ aI aL bo
def bx.uv(N:Nat)(Qn:bx.Ap)(bt:bx.aW)(cE:bx.cN)(x0:aj)(x1:aj)(x6:aj)(x7:Int)(x8:Int)(x9:Int)(aQ:Int)(aI:Bool):Option (aj×(Bool)):=
 Qn x0 x1 x6 x7 x8 x9 aQ aI (false,ld) (0:Int)
def bx.Da(N:Nat)(bt:bx.aW)(cE:bx.cN)(x0:aj)(x1:aj)(x6:aj)(x7:Int)(x8:Int)(x9:Int)(aQ:Int)(aI:Bool):Option (aj×(Bool)):=bx.uv N (bx.D9 N bt cE N) bt cE x0 x1 x6 x7 x8 x9 aQ aI
def bx.ll(N:Nat)(p8:bx.Gs)(bt:bx.aW)(cE:bx.cN)(x0:aj)(x1:aj)(x6:aj)(x7:Int)(x8:Int)(x9:Int):Option (aj×(Bool)):=
 cond (aH x9 6) (cond (aH x7 (List.length x0:Int)) (cond (aJ x7 (List.length x0)) (cond (az ((List.getD x0 x7.toNat aS).1) x8) (cond (aJ x7 (List.length x0)) (cond (az (((List.getD x0 x7.toNat aS).2).1) x9) (cond (aJ x7 (List.length x0)) (p8 x0 x1 x6 (W .i64 (x7+1)) x8 x9 ((((List.getD x0 x7.toNat aS).2).2).1) false) (none)) (p8 x0 x1 x6 x7 x8 x9 (0:Int) false)) (none)) (p8 x0 x1 x6 x7 x8 x9 (0:Int) false)) (none)) (p8 x0 x1 x6 x7 x8 x9 (0:Int) false)) (bt x0 x1 x6 x7 (W .i64 (x8+1)))
def bx.l7(N:Nat)(bt:bx.aW):Nat→bx.cN
 |0,_,_,_,_,_,_=>none
 |n+1,x0,x1,x6,x7,x8,x9=>bx.ll N (bx.Da N bt (bx.l7 N bt n)) bt (bx.l7 N bt n) x0 x1 x6 x7 x8 x9
def bx.cn(N:Nat)(nx:bx.cN)(bt:bx.aW)(x0:aj)(x1:aj)(x6:aj)(x7:Int)(x8:Int):Option (aj×(Bool)):=
 cond (bV x8 24) (nx x0 x1 x6 x7 x8 (0:Int)) (some (x6,true))
def bx.l4(N:Nat):Nat→bx.aW
 |0,_,_,_,_,_=>none
 |n+1,x0,x1,x6,x7,x8=>bx.cn N (bx.l7 N (bx.l4 N n) N) (bx.l4 N n) x0 x1 x6 x7 x8
def bx.b(N:Nat)(cW:bx.aW)(a0:aj)(a1:aj):Option (aj×(Bool)):=
 cW a0 a1 ([]) (0:Int) (0:Int)
def bx(N:Nat)(a0:aj)(a1:aj):Option (aj×(Bool)):=bx.b N (bx.l4 N N) a0 a1
abbrev jA.ch:=Int→Int→Int→bk→av→Bool→Int→Option ((Int)×(Bool))
def jA.g7(N:Nat)(bU:jA.ch)(x0:Int)(x1:Int)(x2:Int)(x3:bk)(aQ:av)(aI:Bool)(aL:Int):Option ((Int)×(Bool)):=
 cond (aH aL (List.length x3:Int)) (cond (aJ aL (List.length x3)) (cond (az ((List.getD x3 aL.toNat ((0:Int),((0:Int),((false,ld),())))).1) x1) (cond (aJ aL (List.length x3)) (cond (az (((List.getD x3 aL.toNat ((0:Int),((0:Int),((false,ld),())))).2).1) x2) (cond (aJ aL (List.length x3)) ((uk N aQ ((((List.getD x3 aL.toNat ((0:Int),((0:Int),((false,ld),())))).2).2).1)).bind fun r2=>bU x0 x1 x2 x3 r2 true (W .i64 (aL+1))) (none)) (bU x0 x1 x2 x3 aQ aI (W .i64 (aL+1)))) (none)) (bU x0 x1 x2 x3 aQ aI (W .i64 (aL+1)))) (none)) (cond (!aI) (some (x0,true)) ((gl N x0).bind fun r6=>(uk N aQ r6).bind fun r7=>(qQ N r7).bind fun r8=>some (r8.1,r8.2)))
def jA.l3(N:Nat):Nat→jA.ch
 |0,_,_,_,_,_,_,_=>none
 |n+1,x0,x1,x2,x3,aQ,aI,aL=>jA.g7 N (jA.l3 N n) x0 x1 x2 x3 aQ aI aL
def jA.b(N:Nat)(iN:jA.ch)(a0:Int)(a1:Int)(a2:Int)(a3:bk):Option ((Int)×(Bool)):=
 iN a0 a1 a2 a3 (false,ld) false (0:Int)
def jA(N:Nat)(a0:Int)(a1:Int)(a2:Int)(a3:bk):Option ((Int)×(Bool)):=jA.b N (jA.l3 N N) a0 a1 a2 a3
abbrev cq.Gs:=aj→bk→aj→Int→Int→Int→Int→Option (aj×(Bool))
abbrev cq.cN:=aj→bk→aj→Int→Int→Int→Option (aj×(Bool))
abbrev cq.aW:=aj→bk→aj→Int→Int→Option (aj×(Bool))
def cq.uv(N:Nat)(bt:cq.aW)(cE:cq.cN)(x0:aj)(x1:bk)(x6:aj)(x7:Int)(x8:Int)(x9:Int)(aQ:Int):Option (aj×(Bool)):=
 (jA N aQ x8 x9 x1).bind fun r5=>cond (!r5.2) (some ([],false)) (cond (!az r5.1 0) (cond (small (List.length x6+List.length ([(x8,(x9,(r5.1,())))]))) (cE x0 x1 (x6++([(x8,(x9,(r5.1,())))])) x7 x8 (W .i64 (x9+1))) (none)) (cE x0 x1 x6 x7 x8 (W .i64 (x9+1))))
def cq.Da(N:Nat)(bt:cq.aW)(cE:cq.cN)(x0:aj)(x1:bk)(x6:aj)(x7:Int)(x8:Int)(x9:Int)(aQ:Int):Option (aj×(Bool)):=cq.uv N bt cE x0 x1 x6 x7 x8 x9 aQ
def cq.ll(N:Nat)(p8:cq.Gs)(bt:cq.aW)(cE:cq.cN)(x0:aj)(x1:bk)(x6:aj)(x7:Int)(x8:Int)(x9:Int):Option (aj×(Bool)):=
 cond (bV x9 24) (cond (aH x7 (List.length x0:Int)) (cond (aJ x7 (List.length x0)) (cond (az ((List.getD x0 x7.toNat aS).1) x8) (cond (aJ x7 (List.length x0)) (cond (az (((List.getD x0 x7.toNat aS).2).1) x9) (cond (aJ x7 (List.length x0)) (p8 x0 x1 x6 (W .i64 (x7+1)) x8 x9 ((((List.getD x0 x7.toNat aS).2).2).1)) (none)) (p8 x0 x1 x6 x7 x8 x9 (0:Int))) (none)) (p8 x0 x1 x6 x7 x8 x9 (0:Int))) (none)) (p8 x0 x1 x6 x7 x8 x9 (0:Int))) (bt x0 x1 x6 x7 (W .i64 (x8+1)))
def cq.l7(N:Nat)(bt:cq.aW):Nat→cq.cN
 |0,_,_,_,_,_,_=>none
 |n+1,x0,x1,x6,x7,x8,x9=>cq.ll N (cq.Da N bt (cq.l7 N bt n)) bt (cq.l7 N bt n) x0 x1 x6 x7 x8 x9
def cq.cn(N:Nat)(nx:cq.cN)(bt:cq.aW)(x0:aj)(x1:bk)(x6:aj)(x7:Int)(x8:Int):Option (aj×(Bool)):=
 cond (bV x8 7) (nx x0 x1 x6 x7 x8 (0:Int)) (some (x6,true))
def cq.l4(N:Nat):Nat→cq.aW
 |0,_,_,_,_,_=>none
 |n+1,x0,x1,x6,x7,x8=>cq.cn N (cq.l7 N (cq.l4 N n) N) (cq.l4 N n) x0 x1 x6 x7 x8
def cq.b(N:Nat)(cW:cq.aW)(a0:aj)(a1:bk):Option (aj×(Bool)):=
 cW a0 a1 ([]) (0:Int) (1:Int)
def cq(N:Nat)(a0:aj)(a1:bk):Option (aj×(Bool)):=cq.b N (cq.l4 N N) a0 a1
def uR(N:Nat)(a0:ah)(a1:aj)(a2:bk):Option (ah×(Int)):=
 (bx N a0.2.2.2.1 a1).bind fun r1=>cond (!r1.2) (some ((bK,(cL,(bp,(bp,(c4,(c9,())))))),(2:Int))) ((cq N a0.2.2.1 a2).bind fun r2=>cond (!r2.2) (some ((bK,(cL,(bp,(bp,(c4,(c9,())))))),(2:Int))) (some ((a0.1,(a0.2.1,(r2.1,(r1.1,a0.2.2.2.2)))),(0:Int))))
def MM(N:Nat)(a0:aO)(a1:Int)(a2:Int)(a3:Int)(a4:Int)(a5:Int):Option (aO×cy):=
 (gl N a5).bind fun r1=>(zX N a1 a2 a3 a4 r1).bind fun r2=>(uR N a0.2.2.1 bp r2).bind fun r3=>some ((a0.1,(a0.2.1,(r3.1,a0.2.2.2))),(r3.2,cc))
def IJ(N:Nat)(a0:Int)(a1:Int):Option (Bool):=
 cond (az a0 1) (some (az a1 0)) (cond (az a0 2) (some (az a1 0)) (cond (az a0 3) (some (az a1 0)) (cond (az a0 4) (some (az a1 0)) (cond (az a0 5) (cond (bV 1 a1) (some (bV a1 24)) (some false)) (cond (az a0 6) (cond (bV 1 a1) (some (bV a1 12)) (some false)) (cond (az a0 7) (cond (bV 1 a1) (some (bV a1 12)) (some false)) (some false)))))))
abbrev vJ.bW:=aj→Int→Option (Bool)
def vJ.eu(N:Nat)(c0:vJ.bW)(x0:aj)(x3:Int):Option (Bool):=
 cond (aH x3 (List.length x0:Int)) (cond (aJ x3 (List.length x0)) (cond (aJ x3 (List.length x0)) ((IJ N ((List.getD x0 x3.toNat aS).1) (((List.getD x0 x3.toNat aS).2).1)).bind fun r2=>cond (!r2) (some false) (cond (aJ x3 (List.length x0)) (cond (az ((((List.getD x0 x3.toNat aS).2).2).1) (0:Int)) (some false) (cond (aH 0 x3) (cond (aJ x3 (List.length x0)) (let v3:Int:=W .i64 (x3-1);cond (aJ v3 (List.length x0)) (cond (aH ((List.getD x0 x3.toNat aS).1) ((List.getD x0 v3.toNat aS).1)) (some false) (cond (aJ x3 (List.length x0)) (let v4:Int:=W .i64 (x3-1);cond (aJ v4 (List.length x0)) (cond (az ((List.getD x0 x3.toNat aS).1) ((List.getD x0 v4.toNat aS).1)) (cond (aJ x3 (List.length x0)) (let v5:Int:=W .i64 (x3-1);cond (aJ v5 (List.length x0)) (cond (bV (((List.getD x0 x3.toNat aS).2).1) (((List.getD x0 v5.toNat aS).2).1)) (some false) (c0 x0 (W .i64 (x3+1)))) (none)) (none)) (c0 x0 (W .i64 (x3+1)))) (none)) (none))) (none)) (none)) (c0 x0 (W .i64 (x3+1))))) (none))) (none)) (none)) (some true)
def vJ.l2(N:Nat):Nat→vJ.bW
 |0,_,_=>none
 |n+1,x0,x3=>vJ.eu N (vJ.l2 N n) x0 x3
def vJ.b(N:Nat)(fB:vJ.bW)(a0:aj):Option (Bool):=
 fB a0 (0:Int)
def vJ(N:Nat)(a0:aj):Option (Bool):=vJ.b N (vJ.l2 N N) a0
abbrev tD.bW:=aj→Int→Option (Bool)
def tD.eu(N:Nat)(c0:tD.bW)(x0:aj)(x3:Int):Option (Bool):=
 cond (aH x3 (List.length x0:Int)) (cond (aJ x3 (List.length x0)) (cond (aH ((List.getD x0 x3.toNat aS).1) (0:Int)) (some false) (cond (aH 24 ((List.getD x0 x3.toNat aS).1)) (some false) (cond (aH (((List.getD x0 x3.toNat aS).2).1) (0:Int)) (some false) (cond (bV 6 (((List.getD x0 x3.toNat aS).2).1)) (some false) (cond (az ((((List.getD x0 x3.toNat aS).2).2).1) (0:Int)) (some false) (cond (az ((((List.getD x0 x3.toNat aS).2).2).1) (-9223372036854775808:Int)) (some false) (cond (aH 0 x3) (let v2:Int:=W .i64 (x3-1);cond (aJ v2 (List.length x0)) (cond (aH ((List.getD x0 x3.toNat aS).1) ((List.getD x0 v2.toNat aS).1)) (some false) (let v3:Int:=W .i64 (x3-1);cond (aJ v3 (List.length x0)) (cond (az ((List.getD x0 x3.toNat aS).1) ((List.getD x0 v3.toNat aS).1)) (let v4:Int:=W .i64 (x3-1);cond (aJ v4 (List.length x0)) (cond (bV (((List.getD x0 x3.toNat aS).2).1) (((List.getD x0 v4.toNat aS).2).1)) (some false) (c0 x0 (W .i64 (x3+1)))) (none)) (c0 x0 (W .i64 (x3+1)))) (none))) (none)) (c0 x0 (W .i64 (x3+1)))))))))) (none)) (some true)
def tD.l2(N:Nat):Nat→tD.bW
 |0,_,_=>none
 |n+1,x0,x3=>tD.eu N (tD.l2 N n) x0 x3
def tD.b(N:Nat)(fB:tD.bW)(a0:aj):Option (Bool):=
 fB a0 (0:Int)
def tD(N:Nat)(a0:aj):Option (Bool):=tD.b N (tD.l2 N N) a0
abbrev kN.bl:=aj→Int→av→av→Int→Option av
def kN.dq(N:Nat)(bf:kN.bl)(x0:aj)(x1:Int)(x4:av)(x5:av)(x6:Int):Option av:=
 cond (aH x6 (List.length x0:Int)) (cond (aJ x6 (List.length x0)) (cond (az (((List.getD x0 x6.toNat aS).2).1) x1) (cond (aJ x6 (List.length x0)) ((gl N ((((List.getD x0 x6.toNat aS).2).2).1)).bind fun r3=>(uk N x5 r3).bind fun r4=>bf x0 x1 x4 r4 (W .i64 (x6+1))) (none)) (bf x0 x1 x4 x5 (W .i64 (x6+1)))) (none)) (some x5)
def kN.l5(N:Nat):Nat→kN.bl
 |0,_,_,_,_,_=>none
 |n+1,x0,x1,x4,x5,x6=>kN.dq N (kN.l5 N n) x0 x1 x4 x5 x6
def kN.b(N:Nat)(dL:kN.bl)(a0:aj)(a1:Int):Option av:=
 (tD N a0).bind fun r1=>cond (!r1) (some (false,ld)) (dL a0 a1 (false,ld) (false,ld) (0:Int))
def kN(N:Nat)(a0:aj)(a1:Int):Option av:=kN.b N (kN.l5 N N) a0 a1
def Ko(N:Nat)(a0:av):Option (Int):=
 cond (az (List.length a0.2.1:Int) 0) (some (0:Int)) (cond (a0.1) (some (-1:Int)) (some (1:Int)))
abbrev lx.bW:=aj→Int→Option (Bool)
def lx.eu(N:Nat)(c0:lx.bW)(x0:aj)(x3:Int):Option (Bool):=
 cond (aH x3 6) ((kN N x0 x3).bind fun r2=>(Ko N r2).bind fun r3=>cond (!az r3 0) (some false) (c0 x0 (W .i64 (x3+1)))) ((tD N x0).bind fun r5=>some r5)
def lx.l2(N:Nat):Nat→lx.bW
 |0,_,_=>none
 |n+1,x0,x3=>lx.eu N (lx.l2 N n) x0 x3
def lx.b(N:Nat)(fB:lx.bW)(a0:aj):Option (Bool):=
 fB a0 (0:Int)
def lx(N:Nat)(a0:aj):Option (Bool):=lx.b N (lx.l2 N N) a0
def xC(N:Nat)(a0:Int):Option (Bool):=
 cond (bV 1 a0) (some (bV a0 1000000000000)) (some false)
def IM(N:Nat)(a0:fM):Option (Bool):=
 cond (bV 1 a0.1) (cond (bV a0.1 1099511627776) (cond (bV 1 a0.2.1) (cond (bV a0.2.1 24) (cond (bV 0 a0.2.2.1) (cond (aH a0.2.2.1 6) (cond (az a0.2.2.2.1 1) (cond (bV 1 a0.2.2.2.2.1) (cond (bV a0.2.2.2.2.1 1000000000) ((xC N a0.2.2.2.2.2.1).bind fun r1=>some r1) (some false)) (some false)) (cond (az a0.2.2.2.1 2) (cond (bV 1 a0.2.2.2.2.1) (cond (bV a0.2.2.2.2.1 1000000000) ((xC N a0.2.2.2.2.2.1).bind fun r2=>some r2) (some false)) (some false)) (some false))) (some false)) (some false)) (some false)) (some false)) (some false)) (some false)
abbrev jd.aW:=a6→Int→Option (Bool)
def jd.cn(N:Nat)(bt:jd.aW)(x0:a6)(x3:Int):Option (Bool):=
 cond (aH x3 (List.length x0:Int)) (cond (aJ x3 (List.length x0)) ((IM N (List.getD x0 x3.toNat eB)).bind fun r2=>cond (!r2) (some false) (cond (aH 0 x3) (cond (aJ x3 (List.length x0)) (let v3:Int:=W .i64 (x3-1);cond (aJ v3 (List.length x0)) (cond (bV ((List.getD x0 x3.toNat eB).1) ((List.getD x0 v3.toNat eB).1)) (some false) (bt x0 (W .i64 (x3+1)))) (none)) (none)) (bt x0 (W .i64 (x3+1))))) (none)) (some true)
def jd.l4(N:Nat):Nat→jd.aW
 |0,_,_=>none
 |n+1,x0,x3=>jd.cn N (jd.l4 N n) x0 x3
def jd.b(N:Nat)(cW:jd.aW)(a0:a6):Option (Bool):=
 cond (aH 32 (List.length a0:Int)) (some false) (cW a0 (0:Int))
def jd(N:Nat)(a0:a6):Option (Bool):=jd.b N (jd.l4 N N) a0
abbrev kL.bl:=aj→av→av→Int→Option av
def kL.dq(N:Nat)(bf:kL.bl)(x0:aj)(x2:av)(x3:av)(x4:Int):Option av:=
 cond (aH x4 (List.length x0:Int)) (cond (aJ x4 (List.length x0)) ((gl N ((((List.getD x0 x4.toNat aS).2).2).1)).bind fun r3=>(uk N x3 r3).bind fun r4=>bf x0 x2 r4 (W .i64 (x4+1))) (none)) (some x3)
def kL.l5(N:Nat):Nat→kL.bl
 |0,_,_,_,_=>none
 |n+1,x0,x2,x3,x4=>kL.dq N (kL.l5 N n) x0 x2 x3 x4
def kL.b(N:Nat)(dL:kL.bl)(a0:aj):Option av:=
 (vJ N a0).bind fun r1=>cond (!r1) (some (false,ld)) (dL a0 (false,ld) (false,ld) (0:Int))
def kL(N:Nat)(a0:aj):Option av:=kL.b N (kL.l5 N N) a0
def Di(N:Nat)(a0:ah)(a1:Int):Option (Bool):=
 (zm N a0.2.1 a1).bind fun r1=>cond (r1.2) (some true) (some (az a1 0))
def uA(N:Nat)(a0:ax)(a1:Int):Option (Int):=
 (jL N a0).bind fun r1=>cond (!r1) (some (0:Int)) ((je N a0 a1).bind fun r2=>some r2)
abbrev bD.ns:=ae→ah→Int→Option (Bool)
abbrev bD.Ae:=ae→ah→Int→Option (Bool)
abbrev bD.fK:=ae→ah→Int→Option (Bool)
abbrev bD.fg:=ae→ah→Int→Option (Bool)
def bD.qY(N:Nat)(Aa:bD.ns)(x2:ae)(x3:ah)(x9:Int):Option (Bool):=
 cond (aH x9 (List.length x3.2.2.2.2.2.1:Int)) (cond (aJ x9 (List.length x3.2.2.2.2.2.1)) ((Di N x3 (((List.getD x3.2.2.2.2.2.1 x9.toNat eB).2).1)).bind fun MV=>cond (!MV) (some false) (cond (aJ x9 (List.length x3.2.2.2.2.2.1)) (cond (bV (List.length x2.1:Int) ((((List.getD x3.2.2.2.2.2.1 x9.toNat eB).2).2).1)) (some false) (Aa x2 x3 (W .i64 (x9+1)))) (none))) (none)) (some true)
def bD.sv(N:Nat):Nat→bD.ns
 |0,_,_,_=>none
 |n+1,x2,x3,x9=>bD.qY N (bD.sv N n) x2 x3 x9
def bD.Ff(N:Nat)(Ac:bD.ns)(KV:bD.Ae)(x2:ae)(x3:ah)(x8:Int):Option (Bool):=
 cond (aH x8 (List.length x3.2.2.2.2.1:Int)) (cond (aJ x8 (List.length x3.2.2.2.2.1)) ((xC N (List.getD x3.2.2.2.2.1 x8.toNat (0:Int))).bind fun Ec=>cond (!Ec) (some false) (KV x2 x3 (W .i64 (x8+1)))) (none)) (Ac x2 x3 (0:Int))
def bD.Fe(N:Nat):Nat→bD.Ae
 |0,_,_,_=>none
 |n+1,x2,x3,x8=>bD.Ff N (bD.sv N N) (bD.Fe N n) x2 x3 x8
def bD.lR(N:Nat)(Qc:bD.Ae)(iq:bD.fK)(x2:ae)(x3:ah)(x7:Int):Option (Bool):=
 cond (aH x7 (List.length x3.2.2.2.1:Int)) (cond (aJ x7 (List.length x3.2.2.2.1)) ((Di N x3 ((List.getD x3.2.2.2.1 x7.toNat aS).1)).bind fun H9=>cond (!H9) (some false) (cond (aJ x7 (List.length x3.2.2.2.1)) (cond (bV (List.length x2.1:Int) (((List.getD x3.2.2.2.1 x7.toNat aS).2).1)) (some false) (iq x2 x3 (W .i64 (x7+1)))) (none))) (none)) (Qc x2 x3 (0:Int))
def bD.nA(N:Nat):Nat→bD.fK
 |0,_,_,_=>none
 |n+1,x2,x3,x7=>bD.lR N (bD.Fe N N) (bD.nA N n) x2 x3 x7
def bD.ow(N:Nat)(rn:bD.fK)(fP:bD.fg)(x2:ae)(x3:ah)(x5:Int):Option (Bool):=
 cond (aH x5 (List.length x3.2.2.1:Int)) (cond (aJ x5 (List.length x3.2.2.1)) (cond (az ((List.getD x3.2.2.1 x5.toNat aS).1) (5:Int)) ((Di N x3 (((List.getD x3.2.2.1 x5.toNat aS).2).1)).bind fun r9=>cond (!r9) (some false) (cond (az ((List.getD x3.2.2.1 x5.toNat aS).1) (6:Int)) ((uA N x3.1 (((List.getD x3.2.2.1 x5.toNat aS).2).1)).bind fun jK=>cond (az jK 0) (some false) (fP x2 x3 (W .i64 (x5+1)))) (cond (az ((List.getD x3.2.2.1 x5.toNat aS).1) (7:Int)) ((uA N x3.1 (((List.getD x3.2.2.1 x5.toNat aS).2).1)).bind fun mv=>cond (az mv 0) (some false) (fP x2 x3 (W .i64 (x5+1)))) (fP x2 x3 (W .i64 (x5+1)))))) (cond (az ((List.getD x3.2.2.1 x5.toNat aS).1) (6:Int)) ((uA N x3.1 (((List.getD x3.2.2.1 x5.toNat aS).2).1)).bind fun sN=>cond (az sN 0) (some false) (fP x2 x3 (W .i64 (x5+1)))) (cond (az ((List.getD x3.2.2.1 x5.toNat aS).1) (7:Int)) ((uA N x3.1 (((List.getD x3.2.2.1 x5.toNat aS).2).1)).bind fun vo=>cond (az vo 0) (some false) (fP x2 x3 (W .i64 (x5+1)))) (fP x2 x3 (W .i64 (x5+1)))))) (none)) (rn x2 x3 (0:Int))
def bD.l6(N:Nat):Nat→bD.fg
 |0,_,_,_=>none
 |n+1,x2,x3,x5=>bD.ow N (bD.nA N N) (bD.l6 N n) x2 x3 x5
def bD.b(N:Nat)(pU:bD.fg)(a0:ae)(a1:ah):Option (Bool):=
 (iH N a0).bind fun r1=>cond (!r1) (some false) ((kg N a1.1 a1.2.1).bind fun r2=>cond (!r2) (some false) ((vJ N a1.2.2.1).bind fun r3=>cond (!r3) (some false) ((lx N a1.2.2.2.1).bind fun r4=>cond (!r4) (some false) ((jd N a1.2.2.2.2.2.1).bind fun r5=>cond (!r5) (some false) (cond (!az (List.length a1.2.2.2.2.1:Int) (List.length a0.1:Int)) (some false) ((kL N a1.2.2.1).bind fun r6=>(Ko N r6).bind fun r7=>cond (!az r7 0) (some false) (pU a0 a1 (0:Int))))))))
def bD(N:Nat)(a0:ae)(a1:ah):Option (Bool):=bD.b N (bD.l6 N N) a0 a1
abbrev qo.aW:=aj→Int→Int→Int→Option (Int)
def qo.cn(N:Nat)(bt:qo.aW)(x0:aj)(x1:Int)(x2:Int)(x7:Int):Option (Int):=
 cond (aH x7 (List.length x0:Int)) (cond (aJ x7 (List.length x0)) (cond (az ((List.getD x0 x7.toNat aS).1) x1) (cond (aJ x7 (List.length x0)) (cond (az (((List.getD x0 x7.toNat aS).2).1) x2) (cond (aJ x7 (List.length x0)) (some ((((List.getD x0 x7.toNat aS).2).2).1)) (none)) (bt x0 x1 x2 (W .i64 (x7+1)))) (none)) (bt x0 x1 x2 (W .i64 (x7+1)))) (none)) (some (0:Int))
def qo.l4(N:Nat):Nat→qo.aW
 |0,_,_,_,_=>none
 |n+1,x0,x1,x2,x7=>qo.cn N (qo.l4 N n) x0 x1 x2 x7
def qo.b(N:Nat)(cW:qo.aW)(a0:aj)(a1:Int)(a2:Int):Option (Int):=
 (vJ N a0).bind fun r1=>cond (!r1) (some (0:Int)) (cW a0 a1 a2 (0:Int))
def qo(N:Nat)(a0:aj)(a1:Int)(a2:Int):Option (Int):=qo.b N (qo.l4 N N) a0 a1 a2
def Km(N:Nat)(a0:av)(a1:av):Option av:=
 (Nd N a1).bind fun r1=>(uk N a0 r1).bind fun r2=>some r2
abbrev sL.bl:=aj→Int→ax→Int→Option ax
def sL.dq(N:Nat)(bf:sL.bl)(x0:aj)(x1:Int)(x5:ax)(x6:Int):Option ax:=
 cond (aH x6 (List.length x0:Int)) (cond (aJ x6 (List.length x0)) (cond (az ((List.getD x0 x6.toNat aS).1) x1) (cond (aJ x6 (List.length x0)) (cond (aJ x6 (List.length x0)) (cond (small (List.length x5+List.length ([(((List.getD x0 x6.toNat aS).2).1,((((List.getD x0 x6.toNat aS).2).2).1,()))]))) (bf x0 x1 (x5++([(((List.getD x0 x6.toNat aS).2).1,((((List.getD x0 x6.toNat aS).2).2).1,()))])) (W .i64 (x6+1))) (none)) (none)) (none)) (bf x0 x1 x5 (W .i64 (x6+1)))) (none)) (some x5)
def sL.l5(N:Nat):Nat→sL.bl
 |0,_,_,_,_=>none
 |n+1,x0,x1,x5,x6=>sL.dq N (sL.l5 N n) x0 x1 x5 x6
def sL.b(N:Nat)(dL:sL.bl)(a0:aj)(a1:Int):Option ax:=
 (tD N a0).bind fun r1=>cond (!r1) (some ([])) (dL a0 a1 ([]) (0:Int))
def sL(N:Nat)(a0:aj)(a1:Int):Option ax:=sL.b N (sL.l5 N N) a0 a1
abbrev eI.cN:=a6→Int→aj→Int→cy→Int→Option aj
abbrev eI.ch:=a6→Int→aj→Int→Option aj
def eI.ll(N:Nat)(bU:eI.ch)(cE:eI.cN)(x0:a6)(x1:Int)(x5:aj)(x6:Int)(x7:cy)(x8:Int):Option aj:=
 cond (aH x8 (List.length x0:Int)) (cond (aJ x8 (List.length x0)) (cond (!az (((List.getD x0 x8.toNat eB).2).1) x1) (cE x0 x1 x5 x6 x7 (W .i64 (x8+1))) (cond (aJ x8 (List.length x0)) (cond (!az ((((List.getD x0 x8.toNat eB).2).2).1) x6) (cE x0 x1 x5 x6 x7 (W .i64 (x8+1))) (cond (aJ x8 (List.length x0)) (cond (az (((((List.getD x0 x8.toNat eB).2).2).2).1) (1:Int)) (cond (aJ x8 (List.length x0)) (cE x0 x1 x5 x6 (x7.1,((W .i64 (x7.2.1+((((((List.getD x0 x8.toNat eB).2).2).2).2).1))),x7.2.2)) (W .i64 (x8+1))) (none)) (cond (aJ x8 (List.length x0)) (cE x0 x1 x5 x6 (x7.1,(x7.2.1,((W .i64 (x7.2.2.1+((((((List.getD x0 x8.toNat eB).2).2).2).2).1))),x7.2.2.2))) (W .i64 (x8+1))) (none))) (none))) (none))) (none)) (cond (aH 0 x7.2.1) (cond (small (List.length x5+List.length ([x7]))) (bU x0 x1 (x5++([x7])) (W .i64 (x6+1))) (none)) (cond (aH 0 x7.2.2.1) (cond (small (List.length x5+List.length ([x7]))) (bU x0 x1 (x5++([x7])) (W .i64 (x6+1))) (none)) (bU x0 x1 x5 (W .i64 (x6+1)))))
def eI.l7(N:Nat)(bU:eI.ch):Nat→eI.cN
 |0,_,_,_,_,_,_=>none
 |n+1,x0,x1,x5,x6,x7,x8=>eI.ll N bU (eI.l7 N bU n) x0 x1 x5 x6 x7 x8
def eI.g7(N:Nat)(nx:eI.cN)(bU:eI.ch)(x0:a6)(x1:Int)(x5:aj)(x6:Int):Option aj:=
 cond (aH x6 6) (nx x0 x1 x5 x6 (x6,cc) (0:Int)) (some x5)
def eI.l3(N:Nat):Nat→eI.ch
 |0,_,_,_,_=>none
 |n+1,x0,x1,x5,x6=>eI.g7 N (eI.l7 N (eI.l3 N n) N) (eI.l3 N n) x0 x1 x5 x6
def eI.b(N:Nat)(iN:eI.ch)(a0:a6)(a1:Int):Option aj:=
 iN a0 a1 ([]) (0:Int)
def eI(N:Nat)(a0:a6)(a1:Int):Option aj:=eI.b N (eI.l3 N N) a0 a1
abbrev jy.aW:=ax→ae→Int→Option (Bool)
def jy.cn(N:Nat)(bt:jy.aW)(x1:ax)(x2:ae)(x5:Int):Option (Bool):=
 cond (aH x5 (List.length x1:Int)) (cond (aJ x5 (List.length x1)) (cond (aH ((List.getD x1 x5.toNat cc).1) (0:Int)) (some false) (cond (aJ x5 (List.length x1)) (cond (bV (List.length x2.1:Int) ((List.getD x1 x5.toNat cc).1)) (some false) (cond (aJ x5 (List.length x1)) (cond (az (((List.getD x1 x5.toNat cc).2).1) (0:Int)) (some false) (cond (aJ x5 (List.length x1)) (cond (az (((List.getD x1 x5.toNat cc).2).1) (-9223372036854775808:Int)) (some false) (cond (aH 0 x5) (cond (aJ x5 (List.length x1)) (let v3:Int:=W .i64 (x5-1);cond (aJ v3 (List.length x1)) (cond (bV ((List.getD x1 x5.toNat cc).1) ((List.getD x1 v3.toNat cc).1)) (some false) (bt x1 x2 (W .i64 (x5+1)))) (none)) (none)) (bt x1 x2 (W .i64 (x5+1))))) (none))) (none))) (none))) (none)) (some true)
def jy.l4(N:Nat):Nat→jy.aW
 |0,_,_,_=>none
 |n+1,x1,x2,x5=>jy.cn N (jy.l4 N n) x1 x2 x5
def jy.b(N:Nat)(cW:jy.aW)(a0:ae)(a1:ax):Option (Bool):=
 (iH N a0).bind fun r1=>cond (!r1) (some false) (cW a1 a0 (0:Int))
def jy(N:Nat)(a0:ae)(a1:ax):Option (Bool):=jy.b N (jy.l4 N N) a0 a1
abbrev lV.bl:=aj→ae→Int→Int→Option (Bool)
def lV.dq(N:Nat)(bf:lV.bl)(x1:aj)(x2:ae)(x5:Int)(x6:Int):Option (Bool):=
 cond (aH x6 (List.length x1:Int)) (cond (aJ x6 (List.length x1)) (cond (aH ((List.getD x1 x6.toNat aS).1) (0:Int)) (some false) (cond (bV (List.length x2.1:Int) ((List.getD x1 x6.toNat aS).1)) (some false) (cond (aH (((List.getD x1 x6.toNat aS).2).1) (0:Int)) (some false) (cond (aH x5 (((List.getD x1 x6.toNat aS).2).1)) (some false) (cond (aH ((((List.getD x1 x6.toNat aS).2).2).1) (0:Int)) (some false) (cond (aH x5 ((((List.getD x1 x6.toNat aS).2).2).1)) (some false) (cond (az (((List.getD x1 x6.toNat aS).2).1) (0:Int)) (cond (az ((((List.getD x1 x6.toNat aS).2).2).1) (0:Int)) (some false) (cond (aH 0 x6) (let v3:Int:=W .i64 (x6-1);cond (aJ v3 (List.length x1)) (cond (bV ((List.getD x1 x6.toNat aS).1) ((List.getD x1 v3.toNat aS).1)) (some false) (bf x1 x2 x5 (W .i64 (x6+1)))) (none)) (bf x1 x2 x5 (W .i64 (x6+1))))) (cond (aH 0 x6) (let v6:Int:=W .i64 (x6-1);cond (aJ v6 (List.length x1)) (cond (bV ((List.getD x1 x6.toNat aS).1) ((List.getD x1 v6.toNat aS).1)) (some false) (bf x1 x2 x5 (W .i64 (x6+1)))) (none)) (bf x1 x2 x5 (W .i64 (x6+1))))))))))) (none)) (some true)
def lV.l5(N:Nat):Nat→lV.bl
 |0,_,_,_,_=>none
 |n+1,x1,x2,x5,x6=>lV.dq N (lV.l5 N n) x1 x2 x5 x6
def lV.b(N:Nat)(dL:lV.bl)(a0:ae)(a1:aj):Option (Bool):=
 (iH N a0).bind fun r1=>cond (!r1) (some false) (dL a1 a0 (33000000000:Int) (0:Int))
def lV(N:Nat)(a0:ae)(a1:aj):Option (Bool):=lV.b N (lV.l5 N N) a0 a1
def Ov(N:Nat)(a0:av):Option av:=
 (Ot N false a0.2.1).bind fun r1=>some r1
def H5(N:Nat)(a0:av)(a1:av):Option (Int):=
 (Km N a0 a1).bind fun r1=>(Ko N r1).bind fun r2=>some r2
abbrev fy.fK:=aj→Int→av→av→av→av→Int→Option (av×(Int))
abbrev fy.cN:=ax→aj→Int→av→av→av→av→Int→Option (av×(Int))
def fy.lR(N:Nat)(iq:fy.fK)(x2:aj)(x3:Int)(x8:av)(aQ:av)(aI:av)(aL:av)(bn:Int):Option (av×(Int)):=
 cond (aH bn (List.length x2:Int)) (cond (aJ bn (List.length x2)) (cond (az ((List.getD x2 bn.toNat aS).1) x3) (cond (aJ bn (List.length x2)) ((gl N (((List.getD x2 bn.toNat aS).2).1)).bind fun r8=>cond (aJ bn (List.length x2)) ((gl N ((((List.getD x2 bn.toNat aS).2).2).1)).bind fun r9=>iq x2 x3 x8 aQ r8 r9 (W .i64 (bn+1))) (none)) (none)) (iq x2 x3 x8 aQ aI aL (W .i64 (bn+1)))) (none)) ((uk N aQ aI).bind fun mv=>(Ov N mv).bind fun nK=>(Km N aQ aL).bind fun oz=>(Ov N oz).bind fun sN=>(H5 N sN nK).bind fun wc=>cond (aH 0 wc) (some (sN,(0:Int))) (some (nK,(0:Int))))
def fy.nA(N:Nat):Nat→fy.fK
 |0,_,_,_,_,_,_,_=>none
 |n+1,x2,x3,x8,aQ,aI,aL,bn=>fy.lR N (fy.nA N n) x2 x3 x8 aQ aI aL bn
def fy.ll(N:Nat)(rn:fy.fK)(cE:fy.cN)(x1:ax)(x2:aj)(x3:Int)(x8:av)(aQ:av)(aI:av)(aL:av)(bo:Int):Option (av×(Int)):=
 cond (aH bo (List.length x1:Int)) (cond (aJ bo (List.length x1)) (cond (az ((List.getD x1 bo.toNat cc).1) x3) (cond (aJ bo (List.length x1)) ((gl N (((List.getD x1 bo.toNat cc).2).1)).bind fun r4=>cE x1 x2 x3 x8 r4 aI aL (W .i64 (bo+1))) (none)) (cE x1 x2 x3 x8 aQ aI aL (W .i64 (bo+1)))) (none)) (rn x2 x3 x8 aQ aI aL (0:Int))
def fy.l7(N:Nat):Nat→fy.cN
 |0,_,_,_,_,_,_,_,_=>none
 |n+1,x1,x2,x3,x8,aQ,aI,aL,bo=>fy.ll N (fy.nA N N) (fy.l7 N n) x1 x2 x3 x8 aQ aI aL bo
def fy.b(N:Nat)(nx:fy.cN)(a0:ae)(a1:ax)(a2:aj)(a3:Int):Option (av×(Int)):=
 (jy N a0 a1).bind fun r1=>cond (!r1) (some ((false,ld),(1:Int))) ((lV N a0 a2).bind fun r2=>cond (!r2) (some ((false,ld),(1:Int))) (cond (aH a3 0) (some ((false,ld),(3:Int))) (cond (bV (List.length a0.1:Int) a3) (some ((false,ld),(3:Int))) (nx a1 a2 a3 (false,ld) (false,ld) (false,ld) (false,ld) (0:Int)))))
def fy(N:Nat)(a0:ae)(a1:ax)(a2:aj)(a3:Int):Option (av×(Int)):=fy.b N (fy.l7 N N) a0 a1 a2 a3
abbrev fX.JA:=av→av→av→(List (Int))→Int→Int→Int→Option av
abbrev fX.cN:=av→av→av→(List (Int))→Int→Int→Int→Option av
abbrev fX.ch:=av→av→av→(List (Int))→Int→Option av
def fX.IE(N:Nat)(bU:fX.ch)(cE:fX.cN)(x2:av)(x3:av)(x4:av)(x5:List (Int))(x6:Int)(x7:Int)(x8:Int):Option av:=
 let v7:Int:=W .i64 (x6+x8);cond (aJ v7 (List.length x5)) (cond (aJ x6 (List.length x2.2.1)) ((RS N x3.2.1 x8).bind fun r8=>let v11:Int:=W .u64 (x7+(W .u64 ((List.getD x5 v7.toNat (0:Int))+(W .u64 ((List.getD x2.2.1 x6.toNat (0:Int))*r8)))));let X9:Int:=W .i64 (x6+x8);cond (aJ X9 (List.length x5)) (cond (aH 32 0) (none) (cE x2 x3 x4 (List.set x5 X9.toNat (ja .and .u64 v11 4294967295)) x6 (shr .u64 v11 32) (W .i64 (x8+1)))) (none)) (none)) (none)
def fX.j9(N:Nat)(bU:fX.ch)(cE:fX.cN)(x2:av)(x3:av)(x4:av)(x5:List (Int))(x6:Int)(x7:Int)(x8:Int):Option av:=fX.IE N bU cE x2 x3 x4 x5 x6 x7 x8
def fX.ll(N:Nat)(Am:fX.JA)(bU:fX.ch)(cE:fX.cN)(x2:av)(x3:av)(x4:av)(x5:List (Int))(x6:Int)(x7:Int)(x8:Int):Option av:=
 cond (aH x8 (List.length x3.2.1:Int)) (Am x2 x3 x4 x5 x6 x7 x8) (cond (aH 0 x7) (Am x2 x3 x4 x5 x6 x7 x8) (bU x2 x3 x4 x5 (W .i64 (x6+1))))
def fX.l7(N:Nat)(bU:fX.ch):Nat→fX.cN
 |0,_,_,_,_,_,_,_=>none
 |n+1,x2,x3,x4,x5,x6,x7,x8=>fX.ll N (fX.j9 N bU (fX.l7 N bU n)) bU (fX.l7 N bU n) x2 x3 x4 x5 x6 x7 x8
def fX.g7(N:Nat)(nx:fX.cN)(bU:fX.ch)(x2:av)(x3:av)(x4:av)(x5:List (Int))(x6:Int):Option av:=
 cond (aH x6 (List.length x2.2.1:Int)) (nx x2 x3 x4 x5 x6 (0:Int) (0:Int)) ((Ot N (!(la .bool x2.1 x3.1)) x5).bind fun vp=>some vp)
def fX.l3(N:Nat):Nat→fX.ch
 |0,_,_,_,_,_=>none
 |n+1,x2,x3,x4,x5,x6=>fX.g7 N (fX.l7 N (fX.l3 N n) N) (fX.l3 N n) x2 x3 x4 x5 x6
def fX.b(N:Nat)(iN:fX.ch)(a0:av)(a1:av):Option av:=
 let v2:Int:=W .i64 ((W .i64 ((List.length a0.2.1:Int)+(List.length a1.2.1:Int)))+1);cond (dZ v2 v2) (iN a0 a1 (false,ld) (List.replicate v2.toNat (0:Int)) (0:Int)) (none)
def fX(N:Nat)(a0:av)(a1:av):Option av:=fX.b N (fX.l3 N N) a0 a1
abbrev lW.bl:=ax→aj→ae→av→av→Int→Option (av×(Int))
def lW.dq(N:Nat)(bf:lW.bl)(x1:ax)(x2:aj)(x3:ae)(x6:av)(x8:av)(x9:Int):Option (av×(Int)):=
 cond (aH x9 (List.length x3.1:Int)) ((fy N x3 x1 x2 x9).bind fun r4=>cond (aJ x9 (List.length x3.1)) ((gl N ((((List.getD x3.1 x9.toNat aN).2).2).1)).bind fun r5=>(fX N r4.1 r5).bind fun r6=>(uk N x8 r6).bind fun r7=>bf x1 x2 x3 x6 r7 (W .i64 (x9+1))) (none)) (some (x8,(0:Int)))
def lW.l5(N:Nat):Nat→lW.bl
 |0,_,_,_,_,_,_=>none
 |n+1,x1,x2,x3,x6,x8,x9=>lW.dq N (lW.l5 N n) x1 x2 x3 x6 x8 x9
def lW.b(N:Nat)(dL:lW.bl)(a0:ae)(a1:ax)(a2:aj):Option (av×(Int)):=
 (jy N a0 a1).bind fun r1=>cond (!r1) (some ((false,ld),(1:Int))) ((lV N a0 a2).bind fun r2=>cond (!r2) (some ((false,ld),(1:Int))) (dL a1 a2 a0 (false,ld) (false,ld) (0:Int)))
def lW(N:Nat)(a0:ae)(a1:ax)(a2:aj):Option (av×(Int)):=lW.b N (lW.l5 N N) a0 a1 a2
def Pn(N:Nat)(a0:ae)(a1:ah)(a2:Int)(a3:a6):Option av:=
 cond (small (List.length c9+List.length a1.2.2.2.2.2.1)) (let v1:List ((Int)×((Int)×((Int)×((Int)×((Int)×((Int)×(Unit))))))):=c9++a1.2.2.2.2.2.1;cond (small (List.length v1+List.length a3)) ((sL N a1.2.2.2.1 a2).bind fun r3=>(eI N (v1++a3) a2).bind fun r4=>(lW N a0 r3 r4).bind fun r5=>some r5.1) (none)) (none)
def SW(N:Nat)(a0:ae)(a1:ah)(a2:Int)(a3:Int):Option (ah×(Int)):=
 (bD N a0 a1).bind fun r1=>cond (!r1) (some ((bK,(cL,(bp,(bp,(c4,(c9,())))))),(1:Int))) (cond (aH a3 1) (some ((bK,(cL,(bp,(bp,(c4,(c9,())))))),(1:Int))) ((zm N a1.2.1 a2).bind fun r2=>cond (!r2.2) (some ((bK,(cL,(bp,(bp,(c4,(c9,())))))),(3:Int))) ((uA N a1.1 r2.1.2.1).bind fun r3=>cond (!az r3 1) (some ((bK,(cL,(bp,(bp,(c4,(c9,())))))),(7:Int))) ((qo N a1.2.2.1 (5:Int) a2).bind fun r4=>(gl N r4).bind fun r5=>(gl N a3).bind fun r6=>(Km N r5 r6).bind fun r7=>(Pn N a0 a1 a2 c9).bind fun r8=>(H5 N r7 r8).bind fun r9=>cond (aH r9 0) (some ((bK,(cL,(bp,(bp,(c4,(c9,())))))),(10:Int))) ((gl N a3).bind fun jK=>(zX N (5:Int) a2 (1:Int) (0:Int) jK).bind fun kZ=>(uR N a1 bp kZ).bind fun mv=>some (mv.1,mv.2))))))
def DL(N:Nat)(a0:aO)(a1:Int):Option (Int):=
 (uA N a0.2.2.1.1 a1).bind fun r1=>some r1
abbrev m7.fC:=Int→Int→aE→Int→Option (aE×(Int))
def m7.yj(N:Nat)(dE:m7.fC)(x1:Int)(x2:Int)(aQ:aE)(aI:Int):Option (aE×(Int)):=
 cond (aH aI (List.length aQ:Int)) (cond (aJ aI (List.length aQ)) (cond (az ((List.getD aQ aI.toNat aN).1) x1) (cond (aJ aI (List.length aQ)) (dE x1 x2 (List.set aQ aI.toNat ((List.getD aQ aI.toNat aN).1,(((List.getD aQ aI.toNat aN).2).1,((((List.getD aQ aI.toNat aN).2).2).1,(x2,((((List.getD aQ aI.toNat aN).2).2).2).2))))) (W .i64 (aI+1))) (none)) (dE x1 x2 aQ (W .i64 (aI+1)))) (none)) (some (aQ,(0:Int)))
def m7.l8(N:Nat):Nat→m7.fC
 |0,_,_,_,_=>none
 |n+1,x1,x2,aQ,aI=>m7.yj N (m7.l8 N n) x1 x2 aQ aI
def m7.b(N:Nat)(An:m7.fC)(a0:aE)(a1:Int)(a2:Int):Option (aE×(Int)):=
 (ix N a0).bind fun r1=>cond (!r1) (some ([],(1:Int))) (cond (aH a2 0) (some ([],(1:Int))) (cond (aH 1000000000000 a2) (some ([],(1:Int))) ((jN N a0 a1).bind fun r2=>cond (!r2.2) (some ([],(3:Int))) (cond (small (List.length cL+List.length a0)) (An a1 a2 (cL++a0) (0:Int)) (none)))))
def m7(N:Nat)(a0:aE)(a1:Int)(a2:Int):Option (aE×(Int)):=m7.b N (m7.l8 N N) a0 a1 a2
def SH(N:Nat)(a0:fM)(a1:Int):Option (av×(Int)):=
 (IM N a0).bind fun r1=>cond (!r1) (some ((false,ld),(1:Int))) ((xC N a1).bind fun r2=>cond (!r2) (some ((false,ld),(1:Int))) (let v3:Int:=W .i64 (a0.2.2.2.2.2.1-a1);cond (az a0.2.2.2.1 2) (let v4:Int:=W .i64 (a1-a0.2.2.2.2.2.1);cond (aH v4 0) (some ((false,ld),(0:Int))) ((gl N a0.2.2.2.2.1).bind fun r5=>(gl N v4).bind fun r6=>(fX N r5 r6).bind fun r7=>some (r7,(0:Int)))) (cond (aH v3 0) (some ((false,ld),(0:Int))) ((gl N a0.2.2.2.2.1).bind fun r8=>(gl N v3).bind fun r9=>(fX N r8 r9).bind fun jK=>some (jK,(0:Int))))))
def Po(N:Nat)(a0:ae)(a1:ah)(a2:fM):Option (Int):=
 (bD N a0 a1).bind fun r1=>cond (!r1) (some (1:Int)) ((IM N a2).bind fun r2=>cond (!r2) (some (1:Int)) ((zm N a1.2.1 a2.2.1).bind fun r3=>cond (!r3.2) (some (3:Int)) ((uA N a1.1 r3.1.2.1).bind fun r4=>cond (!az r4 1) (some (7:Int)) (cond (bV (List.length a0.1:Int) a2.2.2.1) (some (3:Int)) (cond (small (List.length c9+List.length a1.2.2.2.2.2.1)) (let v5:List ((Int)×((Int)×((Int)×((Int)×((Int)×((Int)×(Unit))))))):=c9++a1.2.2.2.2.2.1;cond (small (List.length v5+List.length ([a2]))) ((sL N a1.2.2.2.1 a2.2.1).bind fun r7=>(eI N (v5++([a2])) a2.2.1).bind fun r8=>(fy N a0 r7 r8 a2.2.2.1).bind fun r9=>(gl N r3.1.2.2.2.1).bind fun jK=>(H5 N r9.1 jK).bind fun kZ=>cond (aH 0 kZ) (some (9:Int)) (cond (aJ a2.2.2.1 (List.length a1.2.2.2.2.1)) ((SH N a2 (List.getD a1.2.2.2.2.1 a2.2.2.1.toNat (0:Int))).bind fun mv=>(qo N a1.2.2.1 (5:Int) a2.2.1).bind fun nK=>(gl N nK).bind fun oz=>(Km N oz mv.1).bind fun sN=>(Pn N a0 a1 a2.2.1 ([a2])).bind fun wc=>(H5 N sN wc).bind fun vo=>cond (aH vo 0) (some (10:Int)) (some (0:Int))) (none))) (none)) (none))))))
def SS(N:Nat)(a0:fM)(a1:fM):Option (Bool):=
 cond (!az a0.2.2.2.2.2.1 a1.2.2.2.2.2.1) (some (la .bool (aH a1.2.2.2.2.2.1 a0.2.2.2.2.2.1) (az a0.2.2.2.1 1))) (some (aH a0.1 a1.1))
abbrev dh.Gx:=a6→Int→Int→a6→Int→Int→Option a6
abbrev dh.kp:=a6→Int→Int→a6→Int→Int→Option a6
abbrev dh.bl:=a6→Int→Int→a6→Int→Option a6
def dh.zW(N:Nat)(bf:dh.bl)(x0:a6)(x1:Int)(x2:Int)(x7:a6)(x8:Int)(x9:Int):Option a6:=
 cond (fE 0 x9 (List.length x7:Int) (List.length x7:Int)) (let v9:List ((Int)×((Int)×((Int)×((Int)×((Int)×((Int)×(Unit))))))):=List.drop (0:Int).toNat (List.take x9.toNat x7);cond (small (List.length v9)) (cond (aJ x8 (List.length x0)) (cond (small (List.length v9+List.length ([List.getD x0 x8.toNat eB]))) (let v10:List ((Int)×((Int)×((Int)×((Int)×((Int)×((Int)×(Unit))))))):=v9++([List.getD x0 x8.toNat eB]);cond (fE x9 (List.length x7:Int) (List.length x7:Int) (List.length x7:Int)) (let v11:List ((Int)×((Int)×((Int)×((Int)×((Int)×((Int)×(Unit))))))):=List.drop x9.toNat (List.take (List.length x7:Int).toNat x7);cond (small (List.length v10+List.length v11)) (bf x0 x1 x2 (v10++v11) (W .i64 (x8+1))) (none)) (none)) (none)) (none)) (none)) (none)
def dh.H8(N:Nat)(bf:dh.bl)(x0:a6)(x1:Int)(x2:Int)(x7:a6)(x8:Int)(x9:Int):Option a6:=dh.zW N bf x0 x1 x2 x7 x8 x9
def dh.vk(N:Nat)(xd:dh.Gx)(bf:dh.bl)(oY:dh.kp)(x0:a6)(x1:Int)(x2:Int)(x7:a6)(x8:Int)(x9:Int):Option a6:=
 cond (aH x9 (List.length x7:Int)) (cond (aJ x9 (List.length x7)) (cond (aJ x8 (List.length x0)) ((SS N (List.getD x7 x9.toNat eB) (List.getD x0 x8.toNat eB)).bind fun r6=>cond (r6) (oY x0 x1 x2 x7 x8 (W .i64 (x9+1))) (xd x0 x1 x2 x7 x8 x9)) (none)) (none)) (xd x0 x1 x2 x7 x8 x9)
def dh.l9(N:Nat)(bf:dh.bl):Nat→dh.kp
 |0,_,_,_,_,_,_=>none
 |n+1,x0,x1,x2,x7,x8,x9=>dh.vk N (dh.H8 N bf) bf (dh.l9 N bf n) x0 x1 x2 x7 x8 x9
def dh.dq(N:Nat)(we:dh.kp)(bf:dh.bl)(x0:a6)(x1:Int)(x2:Int)(x7:a6)(x8:Int):Option a6:=
 cond (aH x8 (List.length x0:Int)) (cond (aJ x8 (List.length x0)) (cond (!az ((((List.getD x0 x8.toNat eB).2).2).1) x1) (bf x0 x1 x2 x7 (W .i64 (x8+1))) (cond (aJ x8 (List.length x0)) (cond (!az (((((List.getD x0 x8.toNat eB).2).2).2).1) x2) (bf x0 x1 x2 x7 (W .i64 (x8+1))) (we x0 x1 x2 x7 x8 (0:Int))) (none))) (none)) (some x7)
def dh.l5(N:Nat):Nat→dh.bl
 |0,_,_,_,_,_=>none
 |n+1,x0,x1,x2,x7,x8=>dh.dq N (dh.l9 N (dh.l5 N n) N) (dh.l5 N n) x0 x1 x2 x7 x8
def dh.b(N:Nat)(dL:dh.bl)(a0:a6)(a1:Int)(a2:Int):Option a6:=
 (jd N a0).bind fun r1=>cond (!r1) (some ([])) (dL a0 a1 a2 ([]) (0:Int))
def dh(N:Nat)(a0:a6)(a1:Int)(a2:Int):Option a6:=dh.b N (dh.l5 N N) a0 a1 a2
abbrev bJ.nu:=a6→Int→bc→a6→Int→Option (a6×bc×(Int)×(Int))
abbrev bJ.afH:=a6→Int→bc→Option (a6×bc×(Int)×(Int))
abbrev bJ.nw:=fM→a6→Int→bc→a6→Int→Int→Int→Option (a6×bc×(Int)×(Int))
abbrev bJ.Ao:=fM→a6→Int→bc→a6→Int→Int→uT→Option (a6×bc×(Int)×(Int))
abbrev bJ.Qo:=fM→a6→Int→bc→a6→Int→Option (a6×bc×(Int)×(Int))
abbrev bJ.cN:=fM→a6→Int→bc→a6→Int→Option (a6×bc×(Int)×(Int))
def bJ.zb(N:Nat)(nv:bJ.nu)(x8:a6)(x9:Int)(aQ:bc)(cM:a6)(cY:Int):Option (a6×bc×(Int)×(Int)):=
 cond (aH cY (List.length x8:Int)) (cond (aJ cY (List.length x8)) (cond (aH 0 ((((((List.getD x8 cY.toNat eB).2).2).2).2).1)) (cond (aJ cY (List.length x8)) (cond (small (List.length cM+List.length ([List.getD x8 cY.toNat eB]))) (nv x8 x9 aQ (cM++([List.getD x8 cY.toNat eB])) (W .i64 (cY+1))) (none)) (none)) (nv x8 x9 aQ cM (W .i64 (cY+1)))) (none)) (some (cM,aQ,x9,(0:Int)))
def bJ.yf(N:Nat):Nat→bJ.nu
 |0,_,_,_,_,_=>none
 |n+1,x8,x9,aQ,cM,cY=>bJ.zb N (bJ.yf N n) x8 x9 aQ cM cY
def bJ.Z7(N:Nat)(Gr:bJ.nu)(x8:a6)(x9:Int)(aQ:bc):Option (a6×bc×(Int)×(Int)):=
 Gr x8 x9 aQ ([]) (0:Int)
def bJ.j22(N:Nat)(x8:a6)(x9:Int)(aQ:bc):Option (a6×bc×(Int)×(Int)):=bJ.Z7 N (bJ.yf N N) x8 x9 aQ
def bJ.tp(N:Nat)(cE:bJ.cN)(vd:bJ.nw)(x3:fM)(x8:a6)(x9:Int)(aQ:bc)(aI:a6)(aL:Int)(bo:Int)(bX:Int):Option (a6×bc×(Int)×(Int)):=
 cond (aH bX (List.length x8:Int)) (cond (aJ bX (List.length x8)) (cond (aJ aL (List.length aI)) (cond (az ((List.getD x8 bX.toNat eB).1) ((List.getD aI aL.toNat eB).1)) (cond (aJ bX (List.length x8)) (cond (aJ bX (List.length x8)) (vd x3 (List.set x8 bX.toNat ((List.getD x8 bX.toNat eB).1,(((List.getD x8 bX.toNat eB).2).1,((((List.getD x8 bX.toNat eB).2).2).1,(((((List.getD x8 bX.toNat eB).2).2).2).1,((W .i64 (((((((List.getD x8 bX.toNat eB).2).2).2).2).1)-bo)),(((((List.getD x8 bX.toNat eB).2).2).2).2).2)))))) x9 aQ aI aL bo (W .i64 (bX+1))) (none)) (none)) (vd x3 x8 x9 aQ aI aL bo (W .i64 (bX+1)))) (none)) (none)) (cE x3 x8 x9 aQ aI (W .i64 (aL+1)))
def bJ.vR(N:Nat)(cE:bJ.cN):Nat→bJ.nw
 |0,_,_,_,_,_,_,_,_=>none
 |n+1,x3,x8,x9,aQ,aI,aL,bo,bX=>bJ.tp N cE (bJ.vR N cE n) x3 x8 x9 aQ aI aL bo bX
def bJ.tu(N:Nat)(Ah:bJ.nw)(cE:bJ.cN)(x3:fM)(x8:a6)(x9:Int)(aQ:bc)(aI:a6)(aL:Int)(bo:Int)(bn:uT):Option (a6×bc×(Int)×(Int)):=
 cond (small (List.length aQ+List.length ([bn]))) (Ah x3 x8 (W .i64 (x9-bo)) (aQ++([bn])) aI aL bo (0:Int)) (none)
def bJ.Bf(N:Nat)(cE:bJ.cN)(x3:fM)(x8:a6)(x9:Int)(aQ:bc)(aI:a6)(aL:Int)(bo:Int)(bn:uT):Option (a6×bc×(Int)×(Int)):=bJ.tu N (bJ.vR N cE N) cE x3 x8 x9 aQ aI aL bo bn
def bJ.Jh(N:Nat)(p9:bJ.Ao)(cE:bJ.cN)(x3:fM)(x8:a6)(x9:Int)(aQ:bc)(aI:a6)(aL:Int):Option (a6×bc×(Int)×(Int)):=
 cond (aJ aL (List.length aI)) (cond (az (((List.getD aI aL.toNat eB).2).1) x3.2.1) (cE x3 x8 x9 aQ aI (W .i64 (aL+1))) (cond (aJ aL (List.length aI)) (let QZ:Int:=mn x9 ((((((List.getD aI aL.toNat eB).2).2).2).2).1);cond (aJ aL (List.length aI)) (cond (aJ aL (List.length aI)) (cond (az x3.2.2.2.1 2) (cond (aJ aL (List.length aI)) (p9 x3 x8 x9 aQ aI aL QZ (((List.getD aI aL.toNat eB).2).1,(x3.2.1,(x3.2.2.1,(QZ,(((((((List.getD aI aL.toNat eB).2).2).2).2).2).1,())))))) (none)) (p9 x3 x8 x9 aQ aI aL QZ (x3.2.1,(((List.getD aI aL.toNat eB).2).1,(x3.2.2.1,(QZ,(((((((List.getD aI aL.toNat eB).2).2).2).2).2).1,()))))))) (none)) (none)) (none))) (none)
def bJ.PC(N:Nat)(cE:bJ.cN)(x3:fM)(x8:a6)(x9:Int)(aQ:bc)(aI:a6)(aL:Int):Option (a6×bc×(Int)×(Int)):=bJ.Jh N (bJ.Bf N cE) cE x3 x8 x9 aQ aI aL
def bJ.ll(N:Nat)(Gy:bJ.afH)(Aq:bJ.Qo)(cE:bJ.cN)(x3:fM)(x8:a6)(x9:Int)(aQ:bc)(aI:a6)(aL:Int):Option (a6×bc×(Int)×(Int)):=
 cond (aH aL (List.length aI:Int)) (cond (aH 0 x9) (cond (az x3.2.2.2.1 1) (cond (aJ aL (List.length aI)) (cond (aH x3.2.2.2.2.2.1 (((((((List.getD aI aL.toNat eB).2).2).2).2).2).1)) (Gy x8 x9 aQ) (cond (az x3.2.2.2.1 2) (cond (aJ aL (List.length aI)) (cond (aH (((((((List.getD aI aL.toNat eB).2).2).2).2).2).1) x3.2.2.2.2.2.1) (Gy x8 x9 aQ) (Aq x3 x8 x9 aQ aI aL)) (none)) (Aq x3 x8 x9 aQ aI aL))) (none)) (cond (az x3.2.2.2.1 2) (cond (aJ aL (List.length aI)) (cond (aH (((((((List.getD aI aL.toNat eB).2).2).2).2).2).1) x3.2.2.2.2.2.1) (Gy x8 x9 aQ) (Aq x3 x8 x9 aQ aI aL)) (none)) (Aq x3 x8 x9 aQ aI aL))) (Gy x8 x9 aQ)) (Gy x8 x9 aQ)
def bJ.l7(N:Nat):Nat→bJ.cN
 |0,_,_,_,_,_,_=>none
 |n+1,x3,x8,x9,aQ,aI,aL=>bJ.ll N (bJ.j22 N) (bJ.PC N (bJ.l7 N n)) (bJ.l7 N n) x3 x8 x9 aQ aI aL
def bJ.b(N:Nat)(nx:bJ.cN)(a0:a6)(a1:fM):Option (a6×bc×(Int)×(Int)):=
 (jd N a0).bind fun r1=>cond (!r1) (some ([],[],(0:Int),(1:Int))) ((IM N a1).bind fun r2=>cond (!r2) (some ([],[],(0:Int),(1:Int))) (cond (small (List.length c9+List.length a0)) ((dh N a0 a1.2.2.1 (W .i64 ((3:Int)-a1.2.2.2.1))).bind fun r5=>nx a1 (c9++a0) a1.2.2.2.2.1 ([]) r5 (0:Int)) (none)))
def bJ(N:Nat)(a0:a6)(a1:fM):Option (a6×bc×(Int)×(Int)):=bJ.b N (bJ.l7 N N) a0 a1
def O7(N:Nat)(a0:uT):Option (Bool):=
 cond (bV 0 a0.1) (cond (bV a0.1 24) (cond (bV 0 a0.2.1) (cond (bV a0.2.1 24) (cond (!az a0.1 a0.2.1) (cond (bV 0 a0.2.2.1) (cond (aH a0.2.2.1 6) (cond (bV 1 a0.2.2.2.1) (cond (bV a0.2.2.2.1 1000000000) ((xC N a0.2.2.2.2.1).bind fun r1=>some r1) (some false)) (some false)) (some false)) (some false)) (some false)) (some false)) (some false)) (some false)) (some false)
def Je(N:Nat)(a0:Int):Option ((Int)×(Int)):=
 cond (az a0 0) (some ((2:Int),(0:Int))) (some ((5:Int),a0))
def SE(N:Nat)(a0:uT)(a1:Int):Option (bk×(Int)):=
 (O7 N a0).bind fun r1=>cond (!r1) (some ([],(1:Int))) ((xC N a1).bind fun r2=>cond (!r2) (some ([],(1:Int))) ((gl N (W .i64 (a1-a0.2.2.2.2.1))).bind fun r4=>(gl N a0.2.2.2.1).bind fun r5=>(fX N r4 r5).bind fun r6=>(Ko N r6).bind fun r7=>cond (az r7 0) (some ([],(0:Int))) ((Je N a0.1).bind fun r8=>(Je N a0.2.1).bind fun r9=>(Nd N r6).bind fun jK=>some ([(r8.1,(r8.2,(r6,()))),(r9.1,(r9.2,(jK,())))],(0:Int)))))
abbrev fx.ny:=bc→ae→ah→ah→aj→bk→Int→Option (ah×(Int))
abbrev fx.aW:=bc→ae→ah→ah→Int→Option (ah×(Int))
def fx.qj(N:Nat)(ob:fx.ny)(x2:bc)(x3:ae)(x4:ah)(x6:ah)(x9:aj)(aQ:bk)(aI:Int):Option (ah×(Int)):=
 cond (aH aI (List.length x2:Int)) (cond (aJ aI (List.length x2)) ((Di N x4 ((List.getD x2 aI.toNat jY).1)).bind fun r6=>cond (!r6) (some ((bK,(cL,(bp,(bp,(c4,(c9,())))))),(3:Int))) ((Di N x4 (((List.getD x2 aI.toNat jY).2).1)).bind fun r7=>cond (!r7) (some ((bK,(cL,(bp,(bp,(c4,(c9,())))))),(3:Int))) (cond (bV (List.length x3.1:Int) ((((List.getD x2 aI.toNat jY).2).2).1)) (some ((bK,(cL,(bp,(bp,(c4,(c9,())))))),(3:Int))) (let v8:Int:=W .i64 (0-(((((List.getD x2 aI.toNat jY).2).2).2).1));cond (small (List.length x9+List.length ([((List.getD x2 aI.toNat jY).1,((((List.getD x2 aI.toNat jY).2).2).1,(((((List.getD x2 aI.toNat jY).2).2).2).1,()))),(((List.getD x2 aI.toNat jY).2).1,((((List.getD x2 aI.toNat jY).2).2).1,(v8,())))]))) (cond (aJ ((((List.getD x2 aI.toNat jY).2).2).1) (List.length x4.2.2.2.2.1)) ((SE N (List.getD x2 aI.toNat jY) (List.getD x4.2.2.2.2.1 ((((List.getD x2 aI.toNat jY).2).2).1).toNat (0:Int))).bind fun jK=>cond (small (List.length aQ+List.length jK.1)) (ob x2 x3 x4 x6 (x9++([((List.getD x2 aI.toNat jY).1,((((List.getD x2 aI.toNat jY).2).2).1,(((((List.getD x2 aI.toNat jY).2).2).2).1,()))),(((List.getD x2 aI.toNat jY).2).1,((((List.getD x2 aI.toNat jY).2).2).1,(v8,())))])) (aQ++jK.1) (W .i64 (aI+1))) (none)) (none)) (none))))) (none)) ((uR N x4 x9 aQ).bind fun nK=>some (nK.1,nK.2))
def fx.tt(N:Nat):Nat→fx.ny
 |0,_,_,_,_,_,_,_=>none
 |n+1,x2,x3,x4,x6,x9,aQ,aI=>fx.qj N (fx.tt N n) x2 x3 x4 x6 x9 aQ aI
def fx.cn(N:Nat)(Ai:fx.ny)(bt:fx.aW)(x2:bc)(x3:ae)(x4:ah)(x6:ah)(x8:Int):Option (ah×(Int)):=
 cond (aH x8 (List.length x2:Int)) (cond (aJ x8 (List.length x2)) ((O7 N (List.getD x2 x8.toNat jY)).bind fun r3=>cond (!r3) (some ((bK,(cL,(bp,(bp,(c4,(c9,())))))),(1:Int))) (bt x2 x3 x4 x6 (W .i64 (x8+1)))) (none)) (Ai x2 x3 x4 x6 ([]) ([]) (0:Int))
def fx.l4(N:Nat):Nat→fx.aW
 |0,_,_,_,_,_=>none
 |n+1,x2,x3,x4,x6,x8=>fx.cn N (fx.tt N N) (fx.l4 N n) x2 x3 x4 x6 x8
def fx.b(N:Nat)(cW:fx.aW)(a0:ae)(a1:ah)(a2:bc):Option (ah×(Int)):=
 (bD N a0 a1).bind fun r1=>cond (!r1) (some ((bK,(cL,(bp,(bp,(c4,(c9,())))))),(1:Int))) (cond (aH 200 (List.length a2:Int)) (some ((bK,(cL,(bp,(bp,(c4,(c9,())))))),(1:Int))) (cW a2 a0 a1 (bK,(cL,(bp,(bp,(c4,(c9,())))))) (0:Int)))
def fx(N:Nat)(a0:ae)(a1:ah)(a2:bc):Option (ah×(Int)):=fx.b N (fx.l4 N N) a0 a1 a2
abbrev jg.Qo:=ae→ah→fM→ah→a6→bc→Int→Option (ah×bc×(Int)×(Int))
abbrev jg.Jx:=ae→ah→fM→ah→Option (ah×bc×(Int)×(Int))
def jg.Jh(N:Nat)(x3:ae)(x4:ah)(x5:fM)(x6:ah)(aL:a6)(bo:bc)(bn:Int):Option (ah×bc×(Int)×(Int)):=
 (fx N x3 x4 bo).bind fun r6=>cond (!az r6.2 0) (some ((bK,(cL,(bp,(bp,(c4,(c9,())))))),xY,(0:Int),r6.2)) (cond (aH 0 bn) (cond (small (List.length aL+List.length ([(x5.1,(x5.2.1,(x5.2.2.1,(x5.2.2.2.1,(bn,x5.2.2.2.2.2)))))]))) (some ((r6.1.1,(r6.1.2.1,(r6.1.2.2.1,(r6.1.2.2.2.1,(r6.1.2.2.2.2.1,((aL++([(x5.1,(x5.2.1,(x5.2.2.1,(x5.2.2.2.1,(bn,x5.2.2.2.2.2)))))])),r6.1.2.2.2.2.2.2)))))),bo,bn,(0:Int))) (none)) (some ((r6.1.1,(r6.1.2.1,(r6.1.2.2.1,(r6.1.2.2.2.1,(r6.1.2.2.2.2.1,(aL,r6.1.2.2.2.2.2.2)))))),bo,bn,(0:Int))))
def jg.PC(N:Nat)(x3:ae)(x4:ah)(x5:fM)(x6:ah)(aL:a6)(bo:bc)(bn:Int):Option (ah×bc×(Int)×(Int)):=jg.Jh N x3 x4 x5 x6 aL bo bn
def jg.IB(N:Nat)(Aq:jg.Qo)(x3:ae)(x4:ah)(x5:fM)(x6:ah):Option (ah×bc×(Int)×(Int)):=
 (bJ N x4.2.2.2.2.2.1 x5).bind fun r4=>cond (aH 0 r4.2.2.1) (cond (az (List.length r4.1:Int) 32) (some ((bK,(cL,(bp,(bp,(c4,(c9,())))))),xY,(0:Int),(5:Int))) (Aq x3 x4 x5 x6 r4.1 r4.2.1 r4.2.2.1)) (Aq x3 x4 x5 x6 r4.1 r4.2.1 r4.2.2.1)
def jg.j7(N:Nat)(x3:ae)(x4:ah)(x5:fM)(x6:ah):Option (ah×bc×(Int)×(Int)):=jg.IB N (jg.PC N) x3 x4 x5 x6
def jg.b(N:Nat)(wb:jg.Jx)(a0:ae)(a1:ah)(a2:fM):Option (ah×bc×(Int)×(Int)):=
 (Po N a0 a1 a2).bind fun r1=>cond (!az r1 0) (some ((bK,(cL,(bp,(bp,(c4,(c9,())))))),xY,(0:Int),r1)) (cond (aH 0 (List.length a1.2.2.2.2.2.1:Int)) (let v2:Int:=W .i64 ((List.length a1.2.2.2.2.2.1:Int)-1);cond (aJ v2 (List.length a1.2.2.2.2.2.1)) (cond (bV a2.1 ((List.getD a1.2.2.2.2.2.1 v2.toNat eB).1)) (some ((bK,(cL,(bp,(bp,(c4,(c9,())))))),xY,(0:Int),(1:Int))) (wb a0 a1 a2 (bK,(cL,(bp,(bp,(c4,(c9,())))))))) (none)) (wb a0 a1 a2 (bK,(cL,(bp,(bp,(c4,(c9,()))))))))
def jg(N:Nat)(a0:ae)(a1:ah)(a2:fM):Option (ah×bc×(Int)×(Int)):=jg.b N (jg.j7 N) a0 a1 a2
abbrev nc.bl:=a6→Int→Int→a6→Int→Option (a6×(Int))
def nc.dq(N:Nat)(bf:nc.bl)(x0:a6)(x1:Int)(x2:Int)(x8:a6)(x9:Int):Option (a6×(Int)):=
 cond (aH x9 (List.length x0:Int)) (cond (aJ x9 (List.length x0)) (cond (!az ((List.getD x0 x9.toNat eB).1) x2) (cond (aJ x9 (List.length x0)) (cond (small (List.length x8+List.length ([List.getD x0 x9.toNat eB]))) (bf x0 x1 x2 (x8++([List.getD x0 x9.toNat eB])) (W .i64 (x9+1))) (none)) (none)) (cond (aJ x9 (List.length x0)) (cond (!az (((List.getD x0 x9.toNat eB).2).1) x1) (cond (aJ x9 (List.length x0)) (cond (small (List.length x8+List.length ([List.getD x0 x9.toNat eB]))) (bf x0 x1 x2 (x8++([List.getD x0 x9.toNat eB])) (W .i64 (x9+1))) (none)) (none)) (bf x0 x1 x2 x8 (W .i64 (x9+1)))) (none))) (none)) (cond (az (List.length x8:Int) (List.length x0:Int)) (some ([],(3:Int))) (some (x8,(0:Int))))
def nc.l5(N:Nat):Nat→nc.bl
 |0,_,_,_,_,_=>none
 |n+1,x0,x1,x2,x8,x9=>nc.dq N (nc.l5 N n) x0 x1 x2 x8 x9
def nc.b(N:Nat)(dL:nc.bl)(a0:a6)(a1:Int)(a2:Int):Option (a6×(Int)):=
 (jd N a0).bind fun r1=>cond (!r1) (some ([],(1:Int))) (dL a0 a1 a2 ([]) (0:Int))
def nc(N:Nat)(a0:a6)(a1:Int)(a2:Int):Option (a6×(Int)):=nc.b N (nc.l5 N N) a0 a1 a2
abbrev nf.fg:=aj→Int→bk→av→Int→Option (bk×(Int))
def nf.ow(N:Nat)(fP:nf.fg)(x0:aj)(x1:Int)(aQ:bk)(aI:av)(aL:Int):Option (bk×(Int)):=
 cond (aH aL (List.length x0:Int)) (cond (aJ aL (List.length x0)) (cond (!az (((List.getD x0 aL.toNat aS).2).1) x1) (fP x0 x1 aQ aI (W .i64 (aL+1))) ((Ko N aI).bind fun r9=>cond (az r9 0) (fP x0 x1 aQ aI (W .i64 (aL+1))) (cond (aJ aL (List.length x0)) ((Je N ((List.getD x0 aL.toNat aS).1)).bind fun kZ=>cond (aJ aL (List.length x0)) ((gl N ((((List.getD x0 aL.toNat aS).2).2).1)).bind fun mv=>(fX N mv aI).bind fun nK=>cond (small (List.length aQ+List.length ([(kZ.1,(kZ.2,(nK,())))]))) (fP x0 x1 (aQ++([(kZ.1,(kZ.2,(nK,())))])) aI (W .i64 (aL+1))) (none)) (none)) (none)))) (none)) (some (aQ,(0:Int)))
def nf.l6(N:Nat):Nat→nf.fg
 |0,_,_,_,_,_=>none
 |n+1,x0,x1,aQ,aI,aL=>nf.ow N (nf.l6 N n) x0 x1 aQ aI aL
def nf.b(N:Nat)(pU:nf.fg)(a0:aj)(a1:Int)(a2:Int)(a3:Int):Option (bk×(Int)):=
 (tD N a0).bind fun r1=>cond (!r1) (some ([],(1:Int))) ((xC N a2).bind fun r2=>cond (!r2) (some ([],(1:Int))) ((xC N a3).bind fun r3=>cond (!r3) (some ([],(1:Int))) ((gl N a3).bind fun r4=>(gl N a2).bind fun r5=>(Km N r4 r5).bind fun r6=>pU a0 a1 ([]) r6 (0:Int))))
def nf(N:Nat)(a0:aj)(a1:Int)(a2:Int)(a3:Int):Option (bk×(Int)):=nf.b N (nf.l6 N N) a0 a1 a2 a3
def SV(N:Nat)(a0:ae)(a1:ah)(a2:Int)(a3:Int):Option (ah×bk×(Int)):=
 (bD N a0 a1).bind fun r1=>cond (!r1) (some ((bK,(cL,(bp,(bp,(c4,(c9,())))))),([]:List ((Int)×((Int)×(((Bool)×((List (Int))×(Unit)))×(Unit))))),(1:Int))) ((xC N a3).bind fun r2=>cond (!r2) (some ((bK,(cL,(bp,(bp,(c4,(c9,())))))),([]:List ((Int)×((Int)×(((Bool)×((List (Int))×(Unit)))×(Unit))))),(1:Int))) (cond (aH a2 0) (some ((bK,(cL,(bp,(bp,(c4,(c9,())))))),([]:List ((Int)×((Int)×(((Bool)×((List (Int))×(Unit)))×(Unit))))),(3:Int))) (cond (bV (List.length a0.1:Int) a2) (some ((bK,(cL,(bp,(bp,(c4,(c9,())))))),([]:List ((Int)×((Int)×(((Bool)×((List (Int))×(Unit)))×(Unit))))),(3:Int))) (cond (aJ a2 (List.length a1.2.2.2.2.1)) ((nf N a1.2.2.2.1 a2 (List.getD a1.2.2.2.2.1 a2.toNat (0:Int)) a3).bind fun r3=>(uR N a1 bp r3.1).bind fun r4=>cond (!az r4.2 0) (some ((bK,(cL,(bp,(bp,(c4,(c9,())))))),([]:List ((Int)×((Int)×(((Bool)×((List (Int))×(Unit)))×(Unit))))),r4.2)) (cond (small (List.length c4+List.length a1.2.2.2.2.1)) (let v5:List (Int):=c4++a1.2.2.2.2.1;cond (aJ a2 (List.length v5)) (some ((r4.1.1,(r4.1.2.1,(r4.1.2.2.1,(r4.1.2.2.2.1,((List.set v5 a2.toNat a3),r4.1.2.2.2.2.2))))),r3.1,(0:Int))) (none)) (none))) (none)))))
abbrev lX.bW:=ax→Int→Option (Bool)
def lX.eu(N:Nat)(c0:lX.bW)(x0:ax)(x3:Int):Option (Bool):=
 cond (aH x3 (List.length x0:Int)) (cond (aJ x3 (List.length x0)) (cond (aH ((List.getD x0 x3.toNat cc).1) (1:Int)) (some false) (cond (aJ x3 (List.length x0)) (cond (aH 24 ((List.getD x0 x3.toNat cc).1)) (some false) (cond (aJ x3 (List.length x0)) (cond (az (((List.getD x0 x3.toNat cc).2).1) (0:Int)) (some false) (cond (aH 0 x3) (cond (aJ x3 (List.length x0)) (let v2:Int:=W .i64 (x3-1);cond (aJ v2 (List.length x0)) (cond (bV ((List.getD x0 x3.toNat cc).1) ((List.getD x0 v2.toNat cc).1)) (some false) (c0 x0 (W .i64 (x3+1)))) (none)) (none)) (c0 x0 (W .i64 (x3+1))))) (none))) (none))) (none)) (some true)
def lX.l2(N:Nat):Nat→lX.bW
 |0,_,_=>none
 |n+1,x0,x3=>lX.eu N (lX.l2 N n) x0 x3
def lX.b(N:Nat)(fB:lX.bW)(a0:ax):Option (Bool):=
 fB a0 (0:Int)
def lX(N:Nat)(a0:ax):Option (Bool):=lX.b N (lX.l2 N N) a0
abbrev c7.rp:=ax→bk→ax→Int→av→Int→Option (ax×(Int))
abbrev c7.kp:=ax→bk→ax→Int→av→Int→Option (ax×(Int))
abbrev c7.bl:=ax→bk→ax→Int→Option (ax×(Int))
def c7.zM(N:Nat)(bf:c7.bl)(xe:c7.rp)(x0:ax)(x1:bk)(x6:ax)(x7:Int)(x8:av)(aQ:Int):Option (ax×(Int)):=
 cond (aH aQ (List.length x1:Int)) (cond (aJ aQ (List.length x1)) (cond (az ((List.getD x1 aQ.toNat ((0:Int),((0:Int),((false,ld),())))).1) (5:Int)) (cond (aJ aQ (List.length x1)) (cond (az (((List.getD x1 aQ.toNat ((0:Int),((0:Int),((false,ld),())))).2).1) x7) (cond (aJ aQ (List.length x1)) ((uk N x8 ((((List.getD x1 aQ.toNat ((0:Int),((0:Int),((false,ld),())))).2).2).1)).bind fun r8=>xe x0 x1 x6 x7 r8 (W .i64 (aQ+1))) (none)) (xe x0 x1 x6 x7 x8 (W .i64 (aQ+1)))) (none)) (xe x0 x1 x6 x7 x8 (W .i64 (aQ+1)))) (none)) ((qQ N x8).bind fun mv=>cond (!mv.2) (some ([],(2:Int))) (cond (!az mv.1 0) (cond (small (List.length x6+List.length ([(x7,(mv.1,()))]))) (bf x0 x1 (x6++([(x7,(mv.1,()))])) (W .i64 (x7+1))) (none)) (bf x0 x1 x6 (W .i64 (x7+1)))))
def c7.B7(N:Nat)(bf:c7.bl):Nat→c7.rp
 |0,_,_,_,_,_,_=>none
 |n+1,x0,x1,x6,x7,x8,aQ=>c7.zM N bf (c7.B7 N bf n) x0 x1 x6 x7 x8 aQ
def c7.vk(N:Nat)(Gz:c7.rp)(bf:c7.bl)(oY:c7.kp)(x0:ax)(x1:bk)(x6:ax)(x7:Int)(x8:av)(x9:Int):Option (ax×(Int)):=
 cond (aH x9 (List.length x0:Int)) (cond (aJ x9 (List.length x0)) (cond (az ((List.getD x0 x9.toNat cc).1) x7) (cond (aJ x9 (List.length x0)) ((gl N (((List.getD x0 x9.toNat cc).2).1)).bind fun r4=>oY x0 x1 x6 x7 r4 (W .i64 (x9+1))) (none)) (oY x0 x1 x6 x7 x8 (W .i64 (x9+1)))) (none)) (Gz x0 x1 x6 x7 x8 (0:Int))
def c7.l9(N:Nat)(bf:c7.bl):Nat→c7.kp
 |0,_,_,_,_,_,_=>none
 |n+1,x0,x1,x6,x7,x8,x9=>c7.vk N (c7.B7 N bf N) bf (c7.l9 N bf n) x0 x1 x6 x7 x8 x9
def c7.dq(N:Nat)(we:c7.kp)(bf:c7.bl)(x0:ax)(x1:bk)(x6:ax)(x7:Int):Option (ax×(Int)):=
 cond (bV x7 24) (we x0 x1 x6 x7 (false,ld) (0:Int)) (some (x6,(0:Int)))
def c7.l5(N:Nat):Nat→c7.bl
 |0,_,_,_,_=>none
 |n+1,x0,x1,x6,x7=>c7.dq N (c7.l9 N (c7.l5 N n) N) (c7.l5 N n) x0 x1 x6 x7
def c7.b(N:Nat)(dL:c7.bl)(a0:ax)(a1:bk):Option (ax×(Int)):=
 (lX N a0).bind fun r1=>cond (!r1) (some ([],(1:Int))) (dL a0 a1 ([]) (1:Int))
def c7(N:Nat)(a0:ax)(a1:bk):Option (ax×(Int)):=c7.b N (c7.l5 N N) a0 a1
def ML(N:Nat)(a0:aO)(a1:Int):Option ((Int)×(Bool)):=
 (gl N a0.1).bind fun r1=>(gl N a1).bind fun r2=>(uk N r1 r2).bind fun r3=>(qQ N r3).bind fun r4=>some (r4.1,r4.2)
def SP(N:Nat)(a0:Int)(a1:Int):Option ((Int)×(Bool)):=
 cond (az a0 0) (cond (az a1 1) (some ((1:Int),true)) (cond (az a0 1) (cond (az a1 11) (some ((2:Int),true)) (cond (az a0 2) (cond (az a1 12) (some ((1:Int),true)) (cond (az a0 2) (cond (az a1 13) (some ((3:Int),true)) (cond (az a0 3) (cond (az a1 21) (some ((4:Int),true)) (some ((0:Int),false))) (some ((0:Int),false)))) (cond (az a0 3) (cond (az a1 21) (some ((4:Int),true)) (some ((0:Int),false))) (some ((0:Int),false))))) (cond (az a0 2) (cond (az a1 13) (some ((3:Int),true)) (cond (az a0 3) (cond (az a1 21) (some ((4:Int),true)) (some ((0:Int),false))) (some ((0:Int),false)))) (cond (az a0 3) (cond (az a1 21) (some ((4:Int),true)) (some ((0:Int),false))) (some ((0:Int),false)))))) (cond (az a0 2) (cond (az a1 12) (some ((1:Int),true)) (cond (az a0 2) (cond (az a1 13) (some ((3:Int),true)) (cond (az a0 3) (cond (az a1 21) (some ((4:Int),true)) (some ((0:Int),false))) (some ((0:Int),false)))) (cond (az a0 3) (cond (az a1 21) (some ((4:Int),true)) (some ((0:Int),false))) (some ((0:Int),false))))) (cond (az a0 2) (cond (az a1 13) (some ((3:Int),true)) (cond (az a0 3) (cond (az a1 21) (some ((4:Int),true)) (some ((0:Int),false))) (some ((0:Int),false)))) (cond (az a0 3) (cond (az a1 21) (some ((4:Int),true)) (some ((0:Int),false))) (some ((0:Int),false))))))) (cond (az a0 1) (cond (az a1 11) (some ((2:Int),true)) (cond (az a0 2) (cond (az a1 12) (some ((1:Int),true)) (cond (az a0 2) (cond (az a1 13) (some ((3:Int),true)) (cond (az a0 3) (cond (az a1 21) (some ((4:Int),true)) (some ((0:Int),false))) (some ((0:Int),false)))) (cond (az a0 3) (cond (az a1 21) (some ((4:Int),true)) (some ((0:Int),false))) (some ((0:Int),false))))) (cond (az a0 2) (cond (az a1 13) (some ((3:Int),true)) (cond (az a0 3) (cond (az a1 21) (some ((4:Int),true)) (some ((0:Int),false))) (some ((0:Int),false)))) (cond (az a0 3) (cond (az a1 21) (some ((4:Int),true)) (some ((0:Int),false))) (some ((0:Int),false)))))) (cond (az a0 2) (cond (az a1 12) (some ((1:Int),true)) (cond (az a0 2) (cond (az a1 13) (some ((3:Int),true)) (cond (az a0 3) (cond (az a1 21) (some ((4:Int),true)) (some ((0:Int),false))) (some ((0:Int),false)))) (cond (az a0 3) (cond (az a1 21) (some ((4:Int),true)) (some ((0:Int),false))) (some ((0:Int),false))))) (cond (az a0 2) (cond (az a1 13) (some ((3:Int),true)) (cond (az a0 3) (cond (az a1 21) (some ((4:Int),true)) (some ((0:Int),false))) (some ((0:Int),false)))) (cond (az a0 3) (cond (az a1 21) (some ((4:Int),true)) (some ((0:Int),false))) (some ((0:Int),false))))))
abbrev kU.ny:=Int→Int→ax→Int→Option (ax×(Int))
def kU.qj(N:Nat)(ob:kU.ny)(x1:Int)(x9:Int)(aI:ax)(aL:Int):Option (ax×(Int)):=
 cond (aH aL (List.length aI:Int)) (cond (aJ aL (List.length aI)) (cond (az ((List.getD aI aL.toNat cc).1) x1) (cond (aJ aL (List.length aI)) (ob x1 x9 (List.set aI aL.toNat ((List.getD aI aL.toNat cc).1,(x9,((List.getD aI aL.toNat cc).2).2))) (W .i64 (aL+1))) (none)) (ob x1 x9 aI (W .i64 (aL+1)))) (none)) (some (aI,(0:Int)))
def kU.tt(N:Nat):Nat→kU.ny
 |0,_,_,_,_=>none
 |n+1,x1,x9,aI,aL=>kU.qj N (kU.tt N n) x1 x9 aI aL
def kU.b(N:Nat)(Ai:kU.ny)(a0:ax)(a1:Int)(a2:Int):Option (ax×(Int)):=
 (jL N a0).bind fun r1=>cond (!r1) (some ([],(1:Int))) ((je N a0 a1).bind fun r2=>cond (az r2 0) (some ([],(3:Int))) ((SP N r2 a2).bind fun r3=>cond (!r3.2) (some ([],(8:Int))) (cond (small (List.length bK+List.length a0)) (Ai a1 r3.1 (bK++a0) (0:Int)) (none))))
def kU(N:Nat)(a0:ax)(a1:Int)(a2:Int):Option (ax×(Int)):=kU.b N (kU.tt N N) a0 a1 a2
abbrev m9.bl:=aE→Int→(List (Int))→Int→Option (List (Int))
def m9.dq(N:Nat)(bf:m9.bl)(x0:aE)(x1:Int)(x5:List (Int))(x6:Int):Option (List (Int)):=
 cond (aH x6 (List.length x0:Int)) (cond (aJ x6 (List.length x0)) (cond (az (((List.getD x0 x6.toNat aN).2).1) x1) (cond (aJ x6 (List.length x0)) (cond (small (List.length x5+List.length ([(List.getD x0 x6.toNat aN).1]))) (bf x0 x1 (x5++([(List.getD x0 x6.toNat aN).1])) (W .i64 (x6+1))) (none)) (none)) (bf x0 x1 x5 (W .i64 (x6+1)))) (none)) (some x5)
def m9.l5(N:Nat):Nat→m9.bl
 |0,_,_,_,_=>none
 |n+1,x0,x1,x5,x6=>m9.dq N (m9.l5 N n) x0 x1 x5 x6
def m9.b(N:Nat)(dL:m9.bl)(a0:aE)(a1:Int):Option (List (Int)):=
 (ix N a0).bind fun r1=>cond (!r1) (some ([])) (dL a0 a1 ([]) (0:Int))
def m9(N:Nat)(a0:aE)(a1:Int):Option (List (Int)):=m9.b N (m9.l5 N N) a0 a1
abbrev eW.kp:=a6→(List (Int))→a6→Int→Bool→Int→Option a6
abbrev eW.bl:=a6→(List (Int))→a6→Int→Option a6
def eW.vk(N:Nat)(bf:eW.bl)(oY:eW.kp)(x0:a6)(x1:List (Int))(x5:a6)(x6:Int)(x7:Bool)(x8:Int):Option a6:=
 cond (aH x8 (List.length x1:Int)) (cond (x7) (oY x0 x1 x5 x6 true (W .i64 (x8+1))) (cond (aJ x8 (List.length x1)) (cond (aJ x6 (List.length x0)) (oY x0 x1 x5 x6 (az (List.getD x1 x8.toNat (0:Int)) (((List.getD x0 x6.toNat eB).2).1)) (W .i64 (x8+1))) (none)) (none))) (cond (!x7) (cond (aJ x6 (List.length x0)) (cond (small (List.length x5+List.length ([List.getD x0 x6.toNat eB]))) (bf x0 x1 (x5++([List.getD x0 x6.toNat eB])) (W .i64 (x6+1))) (none)) (none)) (bf x0 x1 x5 (W .i64 (x6+1))))
def eW.l9(N:Nat)(bf:eW.bl):Nat→eW.kp
 |0,_,_,_,_,_,_=>none
 |n+1,x0,x1,x5,x6,x7,x8=>eW.vk N bf (eW.l9 N bf n) x0 x1 x5 x6 x7 x8
def eW.dq(N:Nat)(we:eW.kp)(bf:eW.bl)(x0:a6)(x1:List (Int))(x5:a6)(x6:Int):Option a6:=
 cond (aH x6 (List.length x0:Int)) (we x0 x1 x5 x6 false (0:Int)) (some x5)
def eW.l5(N:Nat):Nat→eW.bl
 |0,_,_,_,_=>none
 |n+1,x0,x1,x5,x6=>eW.dq N (eW.l9 N (eW.l5 N n) N) (eW.l5 N n) x0 x1 x5 x6
def eW.b(N:Nat)(dL:eW.bl)(a0:a6)(a1:List (Int)):Option a6:=
 (jd N a0).bind fun r1=>cond (!r1) (some ([])) (dL a0 a1 ([]) (0:Int))
def eW(N:Nat)(a0:a6)(a1:List (Int)):Option a6:=eW.b N (eW.l5 N N) a0 a1
def Mw(N:Nat)(a0:ae)(a1:ah)(a2:Int):Option (ah×(Int)):=
 (bD N a0 a1).bind fun r1=>cond (!r1) (some ((bK,(cL,(bp,(bp,(c4,(c9,())))))),(1:Int))) ((uA N a1.1 a2).bind fun r2=>cond (az r2 0) (some ((bK,(cL,(bp,(bp,(c4,(c9,())))))),(3:Int))) ((m9 N a1.2.1 a2).bind fun r3=>(eW N a1.2.2.2.2.2.1 r3).bind fun r4=>some ((a1.1,(a1.2.1,(a1.2.2.1,(a1.2.2.2.1,(a1.2.2.2.2.1,(r4,a1.2.2.2.2.2.2)))))),(0:Int))))
def OJ(N:Nat)(a0:bR):Option (Bool):=
 cond (bV 1 a0.1) (cond (bV a0.1 1099511627776) (cond (bV 1 a0.2.1) (cond (bV a0.2.1 1099511627776) (cond (bV 1 a0.2.2.1) (cond (bV a0.2.2.1 12) (cond (bV (-1152921504606846976) a0.2.2.2.1) (some (bV a0.2.2.2.1 1152921504606846976)) (some false)) (some false)) (some false)) (some false)) (some false)) (some false)) (some false)
abbrev cZ.kp:=aE→Int→Int→Option (Bool)
abbrev cZ.Jy:=aE→Int→Option (Bool)
abbrev cZ.aW:=aE→Int→Option (Bool)
def cZ.vk(N:Nat)(bt:cZ.aW)(oY:cZ.kp)(x0:aE)(x3:Int)(x4:Int):Option (Bool):=
 cond (aH x4 x3) (cond (aJ x4 (List.length x0)) (cond (aJ x3 (List.length x0)) (cond (az ((((List.getD x0 x4.toNat aN).2).2).1) ((((List.getD x0 x3.toNat aN).2).2).1)) (cond (aJ x4 (List.length x0)) (cond (aJ x3 (List.length x0)) (cond (az (((List.getD x0 x4.toNat aN).2).1) (((List.getD x0 x3.toNat aN).2).1)) (some false) (oY x0 x3 (W .i64 (x4+1)))) (none)) (none)) (oY x0 x3 (W .i64 (x4+1)))) (none)) (none)) (bt x0 (W .i64 (x3+1)))
def cZ.l9(N:Nat)(bt:cZ.aW):Nat→cZ.kp
 |0,_,_,_=>none
 |n+1,x0,x3,x4=>cZ.vk N bt (cZ.l9 N bt n) x0 x3 x4
def cZ.H6(N:Nat)(we:cZ.kp)(bt:cZ.aW)(x0:aE)(x3:Int):Option (Bool):=
 we x0 x3 (0:Int)
def cZ.j8(N:Nat)(bt:cZ.aW)(x0:aE)(x3:Int):Option (Bool):=cZ.H6 N (cZ.l9 N bt N) bt x0 x3
def cZ.cn(N:Nat)(Af:cZ.Jy)(bt:cZ.aW)(x0:aE)(x3:Int):Option (Bool):=
 cond (aH x3 (List.length x0:Int)) (cond (aJ x3 (List.length x0)) ((OJ N (List.getD x0 x3.toNat aN)).bind fun r2=>cond (!r2) (some false) (cond (aH 0 x3) (cond (aJ x3 (List.length x0)) (let v3:Int:=W .i64 (x3-1);cond (aJ v3 (List.length x0)) (cond (bV ((List.getD x0 x3.toNat aN).1) ((List.getD x0 v3.toNat aN).1)) (some false) (Af x0 x3)) (none)) (none)) (Af x0 x3))) (none)) (some true)
def cZ.l4(N:Nat):Nat→cZ.aW
 |0,_,_=>none
 |n+1,x0,x3=>cZ.cn N (cZ.j8 N (cZ.l4 N n)) (cZ.l4 N n) x0 x3
def cZ.b(N:Nat)(cW:cZ.aW)(a0:aE):Option (Bool):=
 cond (aH 40 (List.length a0:Int)) (some false) (cW a0 (0:Int))
def cZ(N:Nat)(a0:aE):Option (Bool):=cZ.b N (cZ.l4 N N) a0
abbrev lD.bl:=aE→Int→aE→Int→Option aE
def lD.dq(N:Nat)(bf:lD.bl)(x0:aE)(x1:Int)(x5:aE)(x6:Int):Option aE:=
 cond (aH x6 (List.length x0:Int)) (cond (aJ x6 (List.length x0)) (cond (!az ((((List.getD x0 x6.toNat aN).2).2).1) x1) (cond (aJ x6 (List.length x0)) (cond (small (List.length x5+List.length ([List.getD x0 x6.toNat aN]))) (bf x0 x1 (x5++([List.getD x0 x6.toNat aN])) (W .i64 (x6+1))) (none)) (none)) (bf x0 x1 x5 (W .i64 (x6+1)))) (none)) (some x5)
def lD.l5(N:Nat):Nat→lD.bl
 |0,_,_,_,_=>none
 |n+1,x0,x1,x5,x6=>lD.dq N (lD.l5 N n) x0 x1 x5 x6
def lD.b(N:Nat)(dL:lD.bl)(a0:aE)(a1:Int):Option aE:=
 (cZ N a0).bind fun r1=>cond (!r1) (some ([])) (dL a0 a1 ([]) (0:Int))
def lD(N:Nat)(a0:aE)(a1:Int):Option aE:=lD.b N (lD.l5 N N) a0 a1
def Tc(N:Nat)(a0:aO)(a1:Int):Option (Bool):=
 cond (az a1 14) (cond (az a0.2.2.2.1.2.1 1) (some (aH a0.1 a0.2.2.2.1.2.2.1)) (some false)) (cond (az a1 15) (cond (az a0.2.2.2.1.2.1 1) (some (bV a0.2.2.2.1.2.2.1 a0.1)) (some false)) (cond (az a1 19) (cond (az a0.2.2.2.1.2.1 3) (some (aH a0.1 a0.2.2.2.1.2.2.1)) (some false)) (cond (az a1 20) (cond (az a0.2.2.2.1.2.1 3) (some (bV a0.2.2.2.1.2.2.1 a0.1)) (some false)) (some (az a0.2.2.2.1.2.1 2)))))
def DH(N:Nat)(a0:ah)(a1:Int):Option (Int):=
 (uA N a0.1 a1).bind fun r1=>some r1
abbrev lE.bl:=ax→Bool→ae→av→av→Int→Option (av×(Int))
def lE.dq(N:Nat)(bf:lE.bl)(x1:ax)(x2:Bool)(x3:ae)(x6:av)(x8:av)(x9:Int):Option (av×(Int)):=
 cond (aH x9 (List.length x1:Int)) (cond (aJ x9 (List.length x1)) (cond (aJ ((List.getD x1 x9.toNat cc).1) (List.length x3.1)) (cond (x2) (cond (aJ x9 (List.length x1)) (cond (aJ ((List.getD x1 x9.toNat cc).1) (List.length x3.1)) (cond (aJ x9 (List.length x1)) ((gl N (((List.getD x1 x9.toNat cc).2).1)).bind fun r3=>(Ov N r3).bind fun r4=>(gl N (((((List.getD x3.1 ((List.getD x1 x9.toNat cc).1).toNat aN).2).2).2).1)).bind fun r5=>(fX N r4 r5).bind fun r6=>(uk N x8 r6).bind fun r7=>bf x1 x2 x3 x6 r7 (W .i64 (x9+1))) (none)) (none)) (none)) (cond (aJ x9 (List.length x1)) ((gl N (((List.getD x1 x9.toNat cc).2).1)).bind fun r9=>(Ov N r9).bind fun jK=>(gl N ((((List.getD x3.1 ((List.getD x1 x9.toNat cc).1).toNat aN).2).2).1)).bind fun kZ=>(fX N jK kZ).bind fun mv=>(uk N x8 mv).bind fun nK=>bf x1 x2 x3 x6 nK (W .i64 (x9+1))) (none))) (none)) (none)) (some (x8,(0:Int)))
def lE.l5(N:Nat):Nat→lE.bl
 |0,_,_,_,_,_,_=>none
 |n+1,x1,x2,x3,x6,x8,x9=>lE.dq N (lE.l5 N n) x1 x2 x3 x6 x8 x9
def lE.b(N:Nat)(dL:lE.bl)(a0:ae)(a1:ax)(a2:Bool):Option (av×(Int)):=
 (jy N a0 a1).bind fun r1=>cond (!r1) (some ((false,ld),(1:Int))) (dL a1 a2 a0 (false,ld) (false,ld) (0:Int))
def lE(N:Nat)(a0:ae)(a1:ax)(a2:Bool):Option (av×(Int)):=lE.b N (lE.l5 N N) a0 a1 a2
def Z9(N:Nat)(a0:ae)(a1:ax):Option (av×(Int)):=
 (lE N a0 a1 false).bind fun r1=>some (r1.1,r1.2)
def Jj(N:Nat)(a0:ah)(a1:Int):Option (Int):=
 (qo N a0.2.2.1 (5:Int) a1).bind fun r1=>some r1
def SZ(N:Nat)(a0:ae)(a1:ah)(a2:Int)(a3:Int)(a4:Int):Option (Int):=
 (bD N a0 a1).bind fun r1=>cond (!r1) (some (1:Int)) ((zm N a1.2.1 a4).bind fun r2=>cond (!r2.2) (some (3:Int)) ((DH N a1 a2).bind fun r3=>cond (az r3 0) (some (3:Int)) ((DH N a1 a3).bind fun r4=>cond (az r4 0) (some (3:Int)) (cond (!az r2.1.2.1 a2) (some (8:Int)) (cond (!az r2.1.2.2.1 2) (some (8:Int)) ((DH N a1 a3).bind fun r5=>cond (!az r5 1) (some (7:Int)) ((sL N a1.2.2.2.1 a4).bind fun r6=>(Z9 N a0 r6).bind fun r7=>(Jj N a1 a4).bind fun r8=>(gl N r8).bind fun r9=>(H5 N r9 r7.1).bind fun jK=>cond (aH jK 0) (some (10:Int)) (some (0:Int)))))))))
abbrev m8.dW:=Int→Int→aE→Int→Option (aE×(Int))
def m8.jO(N:Nat)(fk:m8.dW)(x2:Int)(x3:Int)(bo:aE)(bn:Int):Option (aE×(Int)):=
 cond (aH bn (List.length bo:Int)) (cond (aJ bn (List.length bo)) (cond (az ((List.getD bo bn.toNat aN).1) x2) (cond (aJ bn (List.length bo)) (fk x2 x3 (List.set bo bn.toNat ((List.getD bo bn.toNat aN).1,(x3,((List.getD bo bn.toNat aN).2).2))) (W .i64 (bn+1))) (none)) (fk x2 x3 bo (W .i64 (bn+1)))) (none)) (some (bo,(0:Int)))
def m8.lz(N:Nat):Nat→m8.dW
 |0,_,_,_,_=>none
 |n+1,x2,x3,bo,bn=>m8.jO N (m8.lz N n) x2 x3 bo bn
def m8.b(N:Nat)(oX:m8.dW)(a0:ax)(a1:aE)(a2:Int)(a3:Int):Option (aE×(Int)):=
 (kg N a0 a1).bind fun r1=>cond (!r1) (some ([],(1:Int))) ((jN N a1 a2).bind fun r2=>(je N a0 a3).bind fun r3=>cond (!r2.2) (some ([],(3:Int))) (cond (az r3 0) (some ([],(3:Int))) (cond (!az r2.1.2.2.1 2) (some ([],(8:Int))) (cond (!az r3 1) (some ([],(7:Int))) (cond (small (List.length cL+List.length a1)) (oX a2 a3 (cL++a1) (0:Int)) (none))))))
def m8(N:Nat)(a0:ax)(a1:aE)(a2:Int)(a3:Int):Option (aE×(Int)):=m8.b N (m8.lz N N) a0 a1 a2 a3
def SY(N:Nat)(a0:ae)(a1:ah)(a2:Int)(a3:Int)(a4:Int):Option (ah×(Int)):=
 (SZ N a0 a1 a2 a3 a4).bind fun r1=>cond (!az r1 0) (some ((bK,(cL,(bp,(bp,(c4,(c9,())))))),r1)) ((m8 N a1.1 a1.2.1 a4 a3).bind fun r2=>cond (!az r2.2 0) (some ((bK,(cL,(bp,(bp,(c4,(c9,())))))),r2.2)) (some ((a1.1,(r2.1,a1.2.2)),(0:Int))))
def PK(N:Nat)(a0:ae)(a1:ax):Option (av×(Int)):=
 (lE N a0 a1 true).bind fun r1=>some (r1.1,r1.2)
def S9(N:Nat)(a0:ae)(a1:ah)(a2:Int):Option ((Int)×(Int)):=
 (bD N a0 a1).bind fun r1=>cond (!r1) (some ((0:Int),(1:Int))) ((zm N a1.2.1 a2).bind fun r2=>cond (!r2.2) (some ((0:Int),(3:Int))) ((sL N a1.2.2.2.1 a2).bind fun r3=>(PK N a0 r3).bind fun r4=>(Jj N a1 a2).bind fun r5=>cond (bV r5 0) (some ((0:Int),(0:Int))) ((qQ N r4.1).bind fun r6=>cond (r6.2) (cond (aH r6.1 r5) (some (r6.1,(0:Int))) (some (r5,(0:Int)))) (some (r5,(0:Int))))))
abbrev lZ.bl:=aj→Int→Int→aj→Int→Option aj
def lZ.dq(N:Nat)(bf:lZ.bl)(x0:aj)(x1:Int)(x2:Int)(x7:aj)(x8:Int):Option aj:=
 cond (aH x8 (List.length x0:Int)) (cond (aJ x8 (List.length x0)) (cond (az ((List.getD x0 x8.toNat aS).1) x1) (cond (aJ x8 (List.length x0)) (cond (aJ x8 (List.length x0)) (let v3:Int:=W .i64 (0-((((List.getD x0 x8.toNat aS).2).2).1));cond (aJ x8 (List.length x0)) (cond (aJ x8 (List.length x0)) (cond (small (List.length x7+List.length ([(x1,(((List.getD x0 x8.toNat aS).2).1,(v3,()))),(x2,(((List.getD x0 x8.toNat aS).2).1,((((List.getD x0 x8.toNat aS).2).2).1,())))]))) (bf x0 x1 x2 (x7++([(x1,(((List.getD x0 x8.toNat aS).2).1,(v3,()))),(x2,(((List.getD x0 x8.toNat aS).2).1,((((List.getD x0 x8.toNat aS).2).2).1,())))])) (W .i64 (x8+1))) (none)) (none)) (none)) (none)) (none)) (bf x0 x1 x2 x7 (W .i64 (x8+1)))) (none)) (some x7)
def lZ.l5(N:Nat):Nat→lZ.bl
 |0,_,_,_,_,_=>none
 |n+1,x0,x1,x2,x7,x8=>lZ.dq N (lZ.l5 N n) x0 x1 x2 x7 x8
def lZ.b(N:Nat)(dL:lZ.bl)(a0:aj)(a1:Int)(a2:Int):Option aj:=
 (tD N a0).bind fun r1=>cond (!r1) (some ([])) (cond (az a1 a2) (some ([])) (cond (aH a1 0) (some ([])) (cond (aH 24 a1) (some ([])) (cond (aH a2 0) (some ([])) (cond (aH 24 a2) (some ([])) (dL a0 a1 a2 ([]) (0:Int)))))))
def lZ(N:Nat)(a0:aj)(a1:Int)(a2:Int):Option aj:=lZ.b N (lZ.l5 N N) a0 a1 a2
abbrev fJ.Ao:=Int→ae→ah→ah→aj→bk→Int→bR→Option (ah×(Int))
abbrev fJ.fC:=Int→ae→ah→ah→aj→bk→Int→Option (ah×(Int))
def fJ.tu(N:Nat)(dE:fJ.fC)(x2:Int)(x3:ae)(x4:ah)(x6:ah)(x8:aj)(x9:bk)(aQ:Int)(aI:bR):Option (ah×(Int)):=
 (Jj N x4 aI.1).bind fun jK=>cond (aH jK 0) ((gl N jK).bind fun kZ=>(Nd N kZ).bind fun mv=>(zX N (2:Int) (0:Int) (5:Int) aI.1 mv).bind fun nK=>cond (small (List.length x9+List.length nK)) ((lZ N x4.2.2.2.1 aI.1 (0:Int)).bind fun sN=>cond (small (List.length x8+List.length sN)) (dE x2 x3 x4 x6 (x8++sN) (x9++nK) (W .i64 (aQ+1))) (none)) (none)) ((lZ N x4.2.2.2.1 aI.1 (0:Int)).bind fun vp=>cond (small (List.length x8+List.length vp)) (dE x2 x3 x4 x6 (x8++vp) x9 (W .i64 (aQ+1))) (none))
def fJ.Bf(N:Nat)(dE:fJ.fC)(x2:Int)(x3:ae)(x4:ah)(x6:ah)(x8:aj)(x9:bk)(aQ:Int)(aI:bR):Option (ah×(Int)):=fJ.tu N dE x2 x3 x4 x6 x8 x9 aQ aI
def fJ.yj(N:Nat)(p9:fJ.Ao)(dE:fJ.fC)(x2:Int)(x3:ae)(x4:ah)(x6:ah)(x8:aj)(x9:bk)(aQ:Int):Option (ah×(Int)):=
 cond (aH aQ (List.length x4.2.1:Int)) (cond (aJ aQ (List.length x4.2.1)) (cond (!az (((List.getD x4.2.1 aQ.toNat aN).2).1) x2) (dE x2 x3 x4 x6 x8 x9 (W .i64 (aQ+1))) (cond (az ((((List.getD x4.2.1 aQ.toNat aN).2).2).1) (2:Int)) ((S9 N x3 x4 ((List.getD x4.2.1 aQ.toNat aN).1)).bind fun r5=>(gl N r5.1).bind fun r6=>(zX N (5:Int) ((List.getD x4.2.1 aQ.toNat aN).1) (2:Int) (0:Int) r6).bind fun r7=>cond (small (List.length x9+List.length r7)) (p9 x2 x3 x4 x6 x8 (x9++r7) aQ (List.getD x4.2.1 aQ.toNat aN)) (none)) (p9 x2 x3 x4 x6 x8 x9 aQ (List.getD x4.2.1 aQ.toNat aN)))) (none)) ((uR N x4 x8 x9).bind fun H9=>some (H9.1,H9.2))
def fJ.l8(N:Nat):Nat→fJ.fC
 |0,_,_,_,_,_,_,_=>none
 |n+1,x2,x3,x4,x6,x8,x9,aQ=>fJ.yj N (fJ.Bf N (fJ.l8 N n)) (fJ.l8 N n) x2 x3 x4 x6 x8 x9 aQ
def fJ.b(N:Nat)(An:fJ.fC)(a0:ae)(a1:ah)(a2:Int):Option (ah×(Int)):=
 (bD N a0 a1).bind fun r1=>cond (!r1) (some ((bK,(cL,(bp,(bp,(c4,(c9,())))))),(1:Int))) ((DH N a1 a2).bind fun r2=>cond (az r2 0) (some ((bK,(cL,(bp,(bp,(c4,(c9,())))))),(3:Int))) (An a2 a0 a1 (bK,(cL,(bp,(bp,(c4,(c9,())))))) ([]) ([]) (0:Int)))
def fJ(N:Nat)(a0:ae)(a1:ah)(a2:Int):Option (ah×(Int)):=fJ.b N (fJ.l8 N N) a0 a1 a2
abbrev wY.aW:=aj→Int→Int→Int→Option (Int)
def wY.cn(N:Nat)(bt:wY.aW)(x0:aj)(x1:Int)(x2:Int)(x7:Int):Option (Int):=
 cond (aH x7 (List.length x0:Int)) (cond (aJ x7 (List.length x0)) (cond (az ((List.getD x0 x7.toNat aS).1) x1) (cond (aJ x7 (List.length x0)) (cond (az (((List.getD x0 x7.toNat aS).2).1) x2) (cond (aJ x7 (List.length x0)) (some ((((List.getD x0 x7.toNat aS).2).2).1)) (none)) (bt x0 x1 x2 (W .i64 (x7+1)))) (none)) (bt x0 x1 x2 (W .i64 (x7+1)))) (none)) (some (0:Int))
def wY.l4(N:Nat):Nat→wY.aW
 |0,_,_,_,_=>none
 |n+1,x0,x1,x2,x7=>wY.cn N (wY.l4 N n) x0 x1 x2 x7
def wY.b(N:Nat)(cW:wY.aW)(a0:aj)(a1:Int)(a2:Int):Option (Int):=
 (tD N a0).bind fun r1=>cond (!r1) (some (0:Int)) (cW a0 a1 a2 (0:Int))
def wY(N:Nat)(a0:aj)(a1:Int)(a2:Int):Option (Int):=wY.b N (wY.l4 N N) a0 a1 a2
abbrev m4.bl:=ae→ah→kT→Int→Option (kT×(Int))
def m4.dq(N:Nat)(bf:m4.bl)(x2:ae)(x3:ah)(x6:kT)(x7:Int):Option (kT×(Int)):=
 cond (aH x7 (List.length x2.1:Int)) (cond (aJ x7 (List.length x2.1)) (cond (aJ ((List.getD x2.1 x7.toNat aN).1) (List.length x6)) ((wY N x3.2.2.2.1 (0:Int) x7).bind fun r4=>(gl N r4).bind fun r5=>cond (aJ x7 (List.length x3.2.2.2.2.1)) ((gl N (List.getD x3.2.2.2.2.1 x7.toNat (0:Int))).bind fun r6=>(fX N r5 r6).bind fun r7=>(uk N (List.getD x6 ((List.getD x2.1 x7.toNat aN).1).toNat (false,ld)) r7).bind fun r8=>cond (aJ ((List.getD x2.1 x7.toNat aN).1) (List.length x6)) (bf x2 x3 (List.set x6 ((List.getD x2.1 x7.toNat aN).1).toNat r8) (W .i64 (x7+1))) (none)) (none)) (none)) (none)) (some (x6,(0:Int)))
def m4.l5(N:Nat):Nat→m4.bl
 |0,_,_,_,_=>none
 |n+1,x2,x3,x6,x7=>m4.dq N (m4.l5 N n) x2 x3 x6 x7
def m4.b(N:Nat)(dL:m4.bl)(a0:ae)(a1:ah):Option (kT×(Int)):=
 (bD N a0 a1).bind fun r1=>cond (!r1) (some ([],(1:Int))) (cond (dZ 4 4) (dL a0 a1 (List.replicate (4:Int).toNat (false,ld)) (0:Int)) (none))
def m4(N:Nat)(a0:ae)(a1:ah):Option (kT×(Int)):=m4.b N (m4.l5 N N) a0 a1
abbrev wZ.bl:=Int→ae→(List (Int))→Int→Option (List (Int))
def wZ.dq(N:Nat)(bf:wZ.bl)(x1:Int)(x2:ae)(x5:List (Int))(x6:Int):Option (List (Int)):=
 cond (aH x6 (List.length x2.1:Int)) (cond (aJ x6 (List.length x2.1)) (cond (az ((List.getD x2.1 x6.toNat aN).1) x1) (cond (small (List.length x5+List.length ([x6]))) (bf x1 x2 (x5++([x6])) (W .i64 (x6+1))) (none)) (bf x1 x2 x5 (W .i64 (x6+1)))) (none)) (some x5)
def wZ.l5(N:Nat):Nat→wZ.bl
 |0,_,_,_,_=>none
 |n+1,x1,x2,x5,x6=>wZ.dq N (wZ.l5 N n) x1 x2 x5 x6
def wZ.b(N:Nat)(dL:wZ.bl)(a0:ae)(a1:Int):Option (List (Int)):=
 (iH N a0).bind fun r1=>cond (!r1) (some ([])) (dL a1 a0 ([]) (0:Int))
def wZ(N:Nat)(a0:ae)(a1:Int):Option (List (Int)):=wZ.b N (wZ.l5 N N) a0 a1
abbrev ln.aW:=(List (Int))→(List (Int))→Int→Int→Option ((List (Int))×(Int))
def ln.cn(N:Nat)(bt:ln.aW)(x0:List (Int))(x4:List (Int))(x5:Int)(x6:Int):Option ((List (Int))×(Int)):=
 cond (bV 0 x6) (cond (aH 32 0) (none) (cond (aJ x6 (List.length x0)) (let v5:Int:=ja .or .u64 (W .u64 (shl .u64 x5 32)) (List.getD x0 x6.toNat (0:Int));cond (aH 1 0) (none) (cond (aJ x6 (List.length x4)) (bt x0 (List.set x4 x6.toNat (shr .u64 v5 1)) (ja .and .u64 v5 1) (W .i64 (x6-1))) (none))) (none))) ((kd N x4).bind fun jK=>some (jK,x5))
def ln.l4(N:Nat):Nat→ln.aW
 |0,_,_,_,_=>none
 |n+1,x0,x4,x5,x6=>ln.cn N (ln.l4 N n) x0 x4 x5 x6
def ln.b(N:Nat)(cW:ln.aW)(a0:List (Int)):Option ((List (Int))×(Int)):=
 cond (dZ (List.length a0:Int) (List.length a0:Int)) (cW a0 (List.replicate (List.length a0:Int).toNat (0:Int)) (0:Int) (W .i64 ((List.length a0:Int)-1))) (none)
def ln(N:Nat)(a0:List (Int)):Option ((List (Int))×(Int)):=ln.b N (ln.l4 N N) a0
abbrev eU.kp:=av→av→av→av→(List (Int))→av→av→Int→Option (av×av)
abbrev eU.ch:=av→av→av→av→(List (Int))→(List (Int))→Option (av×av)
def eU.vk(N:Nat)(oY:eU.kp)(x2:av)(x3:av)(x4:av)(x5:av)(x6:List (Int))(aQ:av)(aI:av)(aL:Int):Option (av×av):=
 cond (bV 0 aL) ((uk N aQ aQ).bind fun r6=>(uk N aI aI).bind fun r7=>cond (aJ aL (List.length x6)) (cond (az (List.getD x6 aL.toNat (0:Int)) (1:Int)) ((gl N (1:Int)).bind fun r8=>(uk N r7 r8).bind fun r9=>(H5 N r9 x3).bind fun jK=>cond (bV 0 jK) ((Km N r9 x3).bind fun kZ=>(gl N (1:Int)).bind fun mv=>(uk N r6 mv).bind fun nK=>oY x2 x3 x4 x5 x6 nK kZ (W .i64 (aL-1))) (oY x2 x3 x4 x5 x6 r6 r9 (W .i64 (aL-1)))) ((H5 N r7 x3).bind fun wc=>cond (bV 0 wc) ((Km N r7 x3).bind fun vo=>(gl N (1:Int)).bind fun vp=>(uk N r6 vp).bind fun GA=>oY x2 x3 x4 x5 x6 GA vo (W .i64 (aL-1))) (oY x2 x3 x4 x5 x6 r6 r7 (W .i64 (aL-1))))) (none)) (cond (!x2.1) (some (aQ,aI)) ((Ko N aI).bind fun Ib=>cond (az Ib 0) ((Nd N aQ).bind fun Ab=>some (Ab,aI)) ((Nd N aQ).bind fun Ec=>(gl N (1:Int)).bind fun Ed=>(Km N Ec Ed).bind fun xc=>(Km N x3 aI).bind fun MV=>some (xc,MV))))
def eU.l9(N:Nat):Nat→eU.kp
 |0,_,_,_,_,_,_,_,_=>none
 |n+1,x2,x3,x4,x5,x6,aQ,aI,aL=>eU.vk N (eU.l9 N n) x2 x3 x4 x5 x6 aQ aI aL
def eU.g7(N:Nat)(we:eU.kp)(bU:eU.ch)(x2:av)(x3:av)(x4:av)(x5:av)(x6:List (Int))(x7:List (Int)):Option (av×av):=
 cond (aH 0 (List.length x7:Int)) ((ln N x7).bind fun r2=>cond (small (List.length x6+List.length ([r2.2]))) (bU x2 x3 x4 x5 (x6++([r2.2])) r2.1) (none)) (we x2 x3 x4 x5 x6 (false,ld) (false,ld) (W .i64 ((List.length x6:Int)-1)))
def eU.l3(N:Nat):Nat→eU.ch
 |0,_,_,_,_,_,_=>none
 |n+1,x2,x3,x4,x5,x6,x7=>eU.g7 N (eU.l9 N N) (eU.l3 N n) x2 x3 x4 x5 x6 x7
def eU.b(N:Nat)(iN:eU.ch)(a0:av)(a1:av):Option (av×av):=
 iN a0 a1 (false,ld) (false,ld) ([]) a0.2.1
def eU(N:Nat)(a0:av)(a1:av):Option (av×av):=eU.b N (eU.l3 N N) a0 a1
abbrev pN.Ao:=Int→ae→ah→kT→aE→Int→(List (Int))→Int→Option (aE×(Int))
abbrev pN.fg:=Int→ae→ah→kT→aE→Int→Option (aE×(Int))
def pN.tu(N:Nat)(fP:pN.fg)(x2:Int)(x3:ae)(x4:ah)(x8:kT)(aQ:aE)(aI:Int)(aL:List (Int))(cM:Int):Option (aE×(Int)):=
 cond (az cM 0) (fP x2 x3 x4 x8 aQ (W .i64 (aI+1))) (cond (aJ 0 (List.length aL)) (cond (aJ aI (List.length x8)) ((Ko N (List.getD x8 aI.toNat (false,ld))).bind fun oz=>cond (aH 0 oz) (cond (small (List.length aQ+List.length ([(x2,(List.getD aL (0:Int).toNat (0:Int),((2:Int),(cM,()))))]))) (fP (W .i64 (x2+1)) x3 x4 x8 (aQ++([(x2,(List.getD aL (0:Int).toNat (0:Int),((2:Int),(cM,()))))])) (W .i64 (aI+1))) (none)) (cond (small (List.length aQ+List.length ([(x2,(List.getD aL (0:Int).toNat (0:Int),((1:Int),(cM,()))))]))) (fP (W .i64 (x2+1)) x3 x4 x8 (aQ++([(x2,(List.getD aL (0:Int).toNat (0:Int),((1:Int),(cM,()))))])) (W .i64 (aI+1))) (none))) (none)) (none))
def pN.Bf(N:Nat)(fP:pN.fg)(x2:Int)(x3:ae)(x4:ah)(x8:kT)(aQ:aE)(aI:Int)(aL:List (Int))(cM:Int):Option (aE×(Int)):=pN.tu N fP x2 x3 x4 x8 aQ aI aL cM
def pN.ow(N:Nat)(p9:pN.Ao)(fP:pN.fg)(x2:Int)(x3:ae)(x4:ah)(x8:kT)(aQ:aE)(aI:Int):Option (aE×(Int)):=
 cond (aH aI 4) ((wZ N x3 aI).bind fun r3=>cond (aJ aI (List.length x8)) ((Ov N (List.getD x8 aI.toNat (false,ld))).bind fun r4=>cond (az (List.length r3:Int) 0) (fP x2 x3 x4 x8 aQ (W .i64 (aI+1))) ((gl N x3.2.2.2.2.2.2.1).bind fun r6=>(H5 N r4 r6).bind fun r7=>cond (bV r7 0) (fP x2 x3 x4 x8 aQ (W .i64 (aI+1))) (cond (aJ 0 (List.length r3)) (cond (aJ (List.getD r3 (0:Int).toNat (0:Int)) (List.length x4.2.2.2.2.1)) ((gl N (List.getD x4.2.2.2.2.1 (List.getD r3 (0:Int).toNat (0:Int)).toNat (0:Int))).bind fun r9=>(eU N r4 r9).bind fun jK=>(qQ N jK.1).bind fun kZ=>cond (!kZ.2) (p9 x2 x3 x4 x8 aQ aI r3 (1000000000:Int)) (cond (aH 1000000000 kZ.1) (p9 x2 x3 x4 x8 aQ aI r3 (1000000000:Int)) (p9 x2 x3 x4 x8 aQ aI r3 kZ.1))) (none)) (none)))) (none)) (some (aQ,(0:Int)))
def pN.l6(N:Nat):Nat→pN.fg
 |0,_,_,_,_,_,_=>none
 |n+1,x2,x3,x4,x8,aQ,aI=>pN.ow N (pN.Bf N (pN.l6 N n)) (pN.l6 N n) x2 x3 x4 x8 aQ aI
def pN.b(N:Nat)(pU:pN.fg)(a0:ae)(a1:ah)(a2:Int):Option (aE×(Int)):=
 (m4 N a0 a1).bind fun r1=>cond (!az r1.2 0) (some ([],(1:Int))) (cond (aH a2 1) (some ([],(1:Int))) (cond (aH 1099511627772 a2) (some ([],(1:Int))) (pU a2 a0 a1 r1.1 ([]) (0:Int))))
def pN(N:Nat)(a0:ae)(a1:ah)(a2:Int):Option (aE×(Int)):=pN.b N (pN.l6 N N) a0 a1 a2
def SA(N:Nat)(a0:bR):Option (Bool):=
 cond (bV 1 a0.1) (cond (bV a0.1 1099511627776) (cond (bV 0 a0.2.1) (cond (aH a0.2.1 6) (cond (az a0.2.2.1 1) (cond (bV 1 a0.2.2.2.1) (some (bV a0.2.2.2.1 1000000000)) (some false)) (cond (az a0.2.2.1 2) (cond (bV 1 a0.2.2.2.1) (some (bV a0.2.2.2.1 1000000000)) (some false)) (some false))) (some false)) (some false)) (some false)) (some false)
abbrev pO.afI:=Int→ae→ah→bR→ah→bR→uT→Option (ah×bR×(Int))
def pO.Z3(N:Nat)(x4:Int)(x6:ae)(x7:ah)(x8:bR)(aL:ah)(bo:bR)(cY:uT):Option (ah×bR×(Int)):=
 (fx N x6 x7 ([cY])).bind fun r6=>cond (!az r6.2 0) (some ((bK,(cL,(bp,(bp,(c4,(c9,())))))),aN,r6.2)) (some (r6.1,(x8.1,(x8.2.1,(x8.2.2.1,((W .i64 (x8.2.2.2.1-x4)),x8.2.2.2.2)))),(0:Int)))
def pO.j14(N:Nat)(x4:Int)(x6:ae)(x7:ah)(x8:bR)(aL:ah)(bo:bR)(cY:uT):Option (ah×bR×(Int)):=pO.Z3 N x4 x6 x7 x8 aL bo cY
def pO.b(N:Nat)(Yh:pO.afI)(a0:ae)(a1:ah)(a2:bR)(a3:Int)(a4:Int)(a5:Int):Option (ah×bR×(Int)):=
 (bD N a0 a1).bind fun r1=>cond (!r1) (some ((bK,(cL,(bp,(bp,(c4,(c9,())))))),aN,(1:Int))) ((SA N a2).bind fun r2=>cond (!r2) (some ((bK,(cL,(bp,(bp,(c4,(c9,())))))),aN,(1:Int))) (cond (aH a4 1) (some ((bK,(cL,(bp,(bp,(c4,(c9,())))))),aN,(1:Int))) (cond (aH 1000000000 a4) (some ((bK,(cL,(bp,(bp,(c4,(c9,())))))),aN,(1:Int))) (cond (aH a5 1) (some ((bK,(cL,(bp,(bp,(c4,(c9,())))))),aN,(1:Int))) (cond (aH 1000000000000 a5) (some ((bK,(cL,(bp,(bp,(c4,(c9,())))))),aN,(1:Int))) (cond (aH a2.2.2.2.1 a4) (some ((bK,(cL,(bp,(bp,(c4,(c9,())))))),aN,(9:Int))) (cond (aH a3 1) (some ((bK,(cL,(bp,(bp,(c4,(c9,())))))),aN,(1:Int))) (cond (aH 24 a3) (some ((bK,(cL,(bp,(bp,(c4,(c9,())))))),aN,(1:Int))) ((Po N a0 a1 (a2.1,(a3,(a2.2.1,((W .i64 ((3:Int)-a2.2.2.1)),(a4,(a5,()))))))).bind fun r4=>cond (!az r4 0) (some ((bK,(cL,(bp,(bp,(c4,(c9,())))))),aN,r4)) (cond (az a2.2.2.1 2) (Yh a4 a0 a1 a2 (bK,(cL,(bp,(bp,(c4,(c9,())))))) aN (a3,((0:Int),(a2.2.1,(a4,(a5,())))))) (Yh a4 a0 a1 a2 (bK,(cL,(bp,(bp,(c4,(c9,())))))) aN ((0:Int),(a3,(a2.2.1,(a4,(a5,()))))))))))))))))
def pO(N:Nat)(a0:ae)(a1:ah)(a2:bR)(a3:Int)(a4:Int)(a5:Int):Option (ah×bR×(Int)):=pO.b N (pO.j14 N) a0 a1 a2 a3 a4 a5
abbrev np.bl:=ae→aO→fA→aO→cy→aE→Bool→Int→Int→Option (aO×cy)
def np.dq(N:Nat)(bf:np.bl)(x3:ae)(x4:aO)(x5:fA)(x6:aO)(x7:cy)(x8:aE)(x9:Bool)(aQ:Int)(aI:Int):Option (aO×cy):=
 cond (aH aI (List.length x4.2.2.2.1.2.2.2.2.1:Int)) (cond (aJ aI (List.length x4.2.2.2.1.2.2.2.2.1)) (cond (az ((List.getD x4.2.2.2.1.2.2.2.2.1 aI.toNat aN).1) x5.2.2.2.2.2.1) ((pO N x3 x4.2.2.1 (List.getD x4.2.2.2.1.2.2.2.2.1 aI.toNat aN) x5.2.2.1 x5.2.2.2.2.2.2.1 x5.2.2.2.2.2.2.2.1).bind fun r2=>cond (!az r2.2.2 0) ((dS N r2.2.2).bind fun r3=>some (x4,r3)) (cond (aH 0 r2.2.1.2.2.2.1) (cond (small (List.length x8+List.length ([r2.2.1]))) (bf x3 (x4.1,(x4.2.1,(r2.1,x4.2.2.2))) x5 x6 x7 (x8++([r2.2.1])) true r2.2.1.2.2.2.1 (W .i64 (aI+1))) (none)) (bf x3 (x4.1,(x4.2.1,(r2.1,x4.2.2.2))) x5 x6 x7 x8 true r2.2.1.2.2.2.1 (W .i64 (aI+1))))) (cond (aH 0 (((((List.getD x4.2.2.2.1.2.2.2.2.1 aI.toNat aN).2).2).2).1)) (cond (small (List.length x8+List.length ([List.getD x4.2.2.2.1.2.2.2.2.1 aI.toNat aN]))) (bf x3 x4 x5 x6 x7 (x8++([List.getD x4.2.2.2.1.2.2.2.2.1 aI.toNat aN])) x9 aQ (W .i64 (aI+1))) (none)) (bf x3 x4 x5 x6 x7 x8 x9 aQ (W .i64 (aI+1))))) (none)) (cond (!x9) ((dS N (3:Int)).bind fun jK=>some (x4,jK)) (some ((x4.1,(x4.2.1,(x4.2.2.1,((x4.2.2.2.1.1,(x4.2.2.2.1.2.1,(x4.2.2.2.1.2.2.1,(x4.2.2.2.1.2.2.2.1,(x8,x4.2.2.2.1.2.2.2.2.2))))),x4.2.2.2.2)))),((0:Int),((0:Int),(aQ,()))))))
def np.l5(N:Nat):Nat→np.bl
 |0,_,_,_,_,_,_,_,_,_=>none
 |n+1,x3,x4,x5,x6,x7,x8,x9,aQ,aI=>np.dq N (np.l5 N n) x3 x4 x5 x6 x7 x8 x9 aQ aI
def np.b(N:Nat)(dL:np.bl)(a0:ae)(a1:aO)(a2:fA):Option (aO×cy):=
 dL a0 a1 a2 ((0:Int),((0:Int),((bK,(cL,(bp,(bp,(c4,(c9,())))))),(((0:Int),((0:Int),((0:Int),((0:Int),(cL,(([]:List ((Int)×((List ((Int)×((Int)×(Unit))))×((Int)×((Int)×((Int)×((Int)×(Unit)))))))),(cL,(c4,(bK,(bK,())))))))))),(((0:Int),((0:Int),(xY,((0:Int),())))),()))))) aS ([]) false (0:Int) (0:Int)
def np(N:Nat)(a0:ae)(a1:aO)(a2:fA):Option (aO×cy):=np.b N (np.l5 N N) a0 a1 a2
abbrev ng.aW:=Int→av→Int→Option (Int)
def ng.cn(N:Nat)(bt:ng.aW)(x1:Int)(x2:av)(x5:Int):Option (Int):=
 cond (aH x5 3) ((gl N x5).bind fun r3=>(gl N x1).bind fun r4=>(fX N r3 r4).bind fun r5=>(H5 N r5 x2).bind fun r6=>cond (aH r6 0) (bt x1 x2 (W .i64 (x5+1))) (some x5)) (some x5)
def ng.l4(N:Nat):Nat→ng.aW
 |0,_,_,_=>none
 |n+1,x1,x2,x5=>ng.cn N (ng.l4 N n) x1 x2 x5
def ng.b(N:Nat)(cW:ng.aW)(a0:av)(a1:Int):Option (Int):=
 (Ko N a0).bind fun r1=>cond (bV r1 0) (some (0:Int)) (cond (aH a1 1) (some (0:Int)) (cW a1 a0 (1:Int)))
def ng(N:Nat)(a0:av)(a1:Int):Option (Int):=ng.b N (ng.l4 N N) a0 a1
abbrev lC.aW:=(List (Int))→Int→Option (Bool)
def lC.cn(N:Nat)(bt:lC.aW)(x1:List (Int))(x5:Int):Option (Bool):=
 cond (aH x5 (List.length x1:Int)) (cond (aJ x5 (List.length x1)) (cond (aH (List.getD x1 x5.toNat (0:Int)) (0:Int)) (some true) (bt x1 (W .i64 (x5+1)))) (none)) (some false)
def lC.l4(N:Nat):Nat→lC.aW
 |0,_,_=>none
 |n+1,x1,x5=>lC.cn N (lC.l4 N n) x1 x5
def lC.b(N:Nat)(cW:lC.aW)(a0:Int)(a1:List (Int)):Option (Bool):=
 cond (aH a0 0) (some true) (cond (aH 64 (List.length a1:Int)) (some true) (cW a1 (0:Int)))
def lC(N:Nat)(a0:Int)(a1:List (Int)):Option (Bool):=lC.b N (lC.l4 N N) a0 a1
abbrev lj.ch:=(List (Int))→av→av→Int→Option av
def lj.g7(N:Nat)(bU:lj.ch)(x0:List (Int))(x2:av)(x3:av)(x4:Int):Option av:=
 cond (aH x4 (List.length x0:Int)) (cond (aJ x4 (List.length x0)) ((gl N (List.getD x0 x4.toNat (0:Int))).bind fun r2=>(uk N x3 r2).bind fun r3=>bU x0 x2 r3 (W .i64 (x4+1))) (none)) (some x3)
def lj.l3(N:Nat):Nat→lj.ch
 |0,_,_,_,_=>none
 |n+1,x0,x2,x3,x4=>lj.g7 N (lj.l3 N n) x0 x2 x3 x4
def lj.b(N:Nat)(iN:lj.ch)(a0:List (Int)):Option av:=
 iN a0 (false,ld) (false,ld) (0:Int)
def lj(N:Nat)(a0:List (Int)):Option av:=lj.b N (lj.l3 N N) a0
abbrev dr.Jy:=(List (Int))→(List (Int))→Int→Int→Option (List (Int))
abbrev dr.fg:=(List (Int))→(List (Int))→Int→Int→Option (List (Int))
abbrev dr.ch:=(List (Int))→(List (Int))→Int→Option (List (Int))
def dr.H6(N:Nat)(bU:dr.ch)(x0:List (Int))(x3:List (Int))(x4:Int)(x5:Int):Option (List (Int)):=
 cond (fE 0 x5 (List.length x3:Int) (List.length x3:Int)) (let v5:List (Int):=List.drop (0:Int).toNat (List.take x5.toNat x3);cond (small (List.length v5)) (cond (small (List.length v5+List.length ([x4]))) (let v6:List (Int):=v5++([x4]);cond (fE x5 (List.length x3:Int) (List.length x3:Int) (List.length x3:Int)) (let v7:List (Int):=List.drop x5.toNat (List.take (List.length x3:Int).toNat x3);cond (small (List.length v6+List.length v7)) (bU x0 (v6++v7) (W .i64 (x4+1))) (none)) (none)) (none)) (none)) (none)
def dr.j8(N:Nat)(bU:dr.ch)(x0:List (Int))(x3:List (Int))(x4:Int)(x5:Int):Option (List (Int)):=dr.H6 N bU x0 x3 x4 x5
def dr.ow(N:Nat)(Af:dr.Jy)(bU:dr.ch)(fP:dr.fg)(x0:List (Int))(x3:List (Int))(x4:Int)(x5:Int):Option (List (Int)):=
 cond (aH x5 (List.length x3:Int)) (cond (aJ x5 (List.length x3)) (cond (aJ (List.getD x3 x5.toNat (0:Int)) (List.length x0)) (cond (aJ x4 (List.length x0)) (cond (bV (List.getD x0 x4.toNat (0:Int)) (List.getD x0 (List.getD x3 x5.toNat (0:Int)).toNat (0:Int))) (fP x0 x3 x4 (W .i64 (x5+1))) (Af x0 x3 x4 x5)) (none)) (none)) (none)) (Af x0 x3 x4 x5)
def dr.l6(N:Nat)(bU:dr.ch):Nat→dr.fg
 |0,_,_,_,_=>none
 |n+1,x0,x3,x4,x5=>dr.ow N (dr.j8 N bU) bU (dr.l6 N bU n) x0 x3 x4 x5
def dr.g7(N:Nat)(pU:dr.fg)(bU:dr.ch)(x0:List (Int))(x3:List (Int))(x4:Int):Option (List (Int)):=
 cond (aH x4 (List.length x0:Int)) (pU x0 x3 x4 (0:Int)) (some x3)
def dr.l3(N:Nat):Nat→dr.ch
 |0,_,_,_=>none
 |n+1,x0,x3,x4=>dr.g7 N (dr.l6 N (dr.l3 N n) N) (dr.l3 N n) x0 x3 x4
def dr.b(N:Nat)(iN:dr.ch)(a0:List (Int)):Option (List (Int)):=
 iN a0 ([]) (0:Int)
def dr(N:Nat)(a0:List (Int)):Option (List (Int)):=dr.b N (dr.l3 N N) a0
abbrev dA.ns:=(List (Int))→Int→(List (Int))→Int→Option ((List (Int))×(Int))
abbrev dA.rp:=Int→(List (Int))→av→(List (Int))→(List (Int))→Int→Int→Option ((List (Int))×(Int))
abbrev dA.Qm:=Int→(List (Int))→av→Option ((List (Int))×(Int))
def dA.qY(N:Nat)(Aa:dA.ns)(x9:List (Int))(aI:Int)(bX:List (Int))(cM:Int):Option ((List (Int))×(Int)):=
 cond (aH cM (List.length bX:Int)) (cond (aH 0 aI) (cond (aJ cM (List.length bX)) (cond (aJ (List.getD bX cM.toNat (0:Int)) (List.length x9)) (cond (aJ (List.getD bX cM.toNat (0:Int)) (List.length x9)) (Aa (List.set x9 (List.getD bX cM.toNat (0:Int)).toNat (W .i64 ((List.getD x9 (List.getD bX cM.toNat (0:Int)).toNat (0:Int))+1))) (W .i64 (aI-1)) bX (W .i64 (cM+1))) (none)) (none)) (none)) (some (x9,(0:Int)))) (some (x9,(0:Int)))
def dA.sv(N:Nat):Nat→dA.ns
 |0,_,_,_,_=>none
 |n+1,x9,aI,bX,cM=>dA.qY N (dA.sv N n) x9 aI bX cM
def dA.zM(N:Nat)(Ac:dA.ns)(xe:dA.rp)(x0:Int)(x1:List (Int))(x6:av)(x9:List (Int))(aQ:List (Int))(aI:Int)(aL:Int):Option ((List (Int))×(Int)):=
 cond (aH aL (List.length x1:Int)) ((gl N x0).bind fun jK=>cond (aJ aL (List.length x1)) ((gl N (List.getD x1 aL.toNat (0:Int))).bind fun kZ=>(fX N jK kZ).bind fun mv=>(eU N mv x6).bind fun nK=>(qQ N nK.1).bind fun oz=>cond (aJ aL (List.length x9)) (let Ng:List (Int):=List.set x9 aL.toNat oz.1;(qQ N nK.2).bind fun wc=>cond (aJ aL (List.length aQ)) (cond (aJ aL (List.length Ng)) (xe x0 x1 x6 Ng (List.set aQ aL.toNat wc.1) (W .i64 (aI-(List.getD Ng aL.toNat (0:Int)))) (W .i64 (aL+1))) (none)) (none)) (none)) (none)) ((dr N aQ).bind fun Gw=>Ac x9 aI Gw (0:Int))
def dA.B7(N:Nat):Nat→dA.rp
 |0,_,_,_,_,_,_,_=>none
 |n+1,x0,x1,x6,x9,aQ,aI,aL=>dA.zM N (dA.sv N N) (dA.B7 N n) x0 x1 x6 x9 aQ aI aL
def dA.Nc(N:Nat)(Gz:dA.rp)(x0:Int)(x1:List (Int))(x6:av):Option ((List (Int))×(Int)):=
 (qQ N x6).bind fun r5=>cond (!r5.2) (some ([],(2:Int))) (cond (dZ (List.length x1:Int) (List.length x1:Int)) (let v6:List (Int):=List.replicate (List.length x1:Int).toNat (0:Int);cond (dZ (List.length x1:Int) (List.length x1:Int)) ((Ko N x6).bind fun r8=>cond (az r8 0) (some (v6,(0:Int))) (Gz x0 x1 x6 v6 (List.replicate (List.length x1:Int).toNat (0:Int)) x0 (0:Int))) (none)) (none))
def dA.j6(N:Nat)(x0:Int)(x1:List (Int))(x6:av):Option ((List (Int))×(Int)):=dA.Nc N (dA.B7 N N) x0 x1 x6
def dA.b(N:Nat)(DO:dA.Qm)(a0:Int)(a1:List (Int)):Option ((List (Int))×(Int)):=
 (lC N a0 a1).bind fun r1=>cond (r1) (some ([],(1:Int))) ((lj N a1).bind fun r2=>(Ko N r2).bind fun r3=>cond (az r3 0) (cond (!az a0 0) (some ([],(1:Int))) (DO a0 a1 r2)) (DO a0 a1 r2))
def dA(N:Nat)(a0:Int)(a1:List (Int)):Option ((List (Int))×(Int)):=dA.b N (dA.j6 N) a0 a1
abbrev mY.bl:=Int→Int→(List (Int))→Int→Option ((List (Int))×(Int))
def mY.dq(N:Nat)(bf:mY.bl)(x0:Int)(x1:Int)(x6:List (Int))(x7:Int):Option ((List (Int))×(Int)):=
 cond (aH x7 x1) (cond (aJ x7 (List.length x6)) (bf x0 x1 (List.set x6 x7.toNat (1:Int)) (W .i64 (x7+1))) (none)) ((dA N x0 x6).bind fun r5=>some (r5.1,r5.2))
def mY.l5(N:Nat):Nat→mY.bl
 |0,_,_,_,_=>none
 |n+1,x0,x1,x6,x7=>mY.dq N (mY.l5 N n) x0 x1 x6 x7
def mY.b(N:Nat)(dL:mY.bl)(a0:Int)(a1:Int):Option ((List (Int))×(Int)):=
 cond (aH a0 0) (some ([],(1:Int))) (cond (aH a1 1) (some ([],(1:Int))) (cond (aH 64 a1) (some ([],(1:Int))) (cond (dZ a1 a1) (dL a0 a1 (List.replicate a1.toNat (0:Int)) (0:Int)) (none))))
def mY(N:Nat)(a0:Int)(a1:Int):Option ((List (Int))×(Int)):=mY.b N (mY.l5 N N) a0 a1
abbrev cT.afJ:=Int→ae→ax→aX→Int→ax→Int→Int→fV→ax→Int→(List (Int))→Option (aX×(Int))
abbrev cT.Qp:=Int→ae→ax→aX→Int→ax→Int→Int→fV→ax→Int→Int→Option (aX×(Int))
abbrev cT.nu:=Int→ae→ax→aX→Int→ax→Int→Int→fV→ax→Int→Option (aX×(Int))
abbrev cT.oZ:=Int→ae→ax→aX→Int→ax→Int→Int→Option (aX×(Int))
abbrev cT.dW:=Int→ae→ax→aX→Int→ax→av→Int→Option (aX×(Int))
abbrev cT.fC:=Int→ae→ax→aX→Int→Option (aX×(Int))
def cT.aab(N:Nat)(dE:cT.fC)(iZ:cT.oZ)(nv:cT.nu)(x2:Int)(x3:ae)(x8:ax)(x9:aX)(aQ:Int)(aI:ax)(bn:Int)(bX:Int)(cM:fV)(pV:ax)(cY:Int)(kX:List (Int)):Option (aX×(Int)):=
 cond (aJ bX (List.length kX)) (cond (!az (List.getD kX bX.toNat (0:Int)) (0:Int)) (cond (aJ cY (List.length aI)) (cond (aJ bX (List.length kX)) (cond (small (List.length pV+List.length ([((List.getD aI cY.toNat cc).1,(List.getD kX bX.toNat (0:Int),()))]))) (nv x2 x3 x8 x9 aQ aI bn bX (cM.1,(bK,cM.2.2)) (pV++([((List.getD aI cY.toNat cc).1,(List.getD kX bX.toNat (0:Int),()))])) (W .i64 (cY+1))) (none)) (none)) (none)) (nv x2 x3 x8 x9 aQ aI bn bX cM pV (W .i64 (cY+1)))) (none)
def cT.j32(N:Nat)(dE:cT.fC)(iZ:cT.oZ)(nv:cT.nu)(x2:Int)(x3:ae)(x8:ax)(x9:aX)(aQ:Int)(aI:ax)(bn:Int)(bX:Int)(cM:fV)(pV:ax)(cY:Int)(kX:List (Int)):Option (aX×(Int)):=cT.aab N dE iZ nv x2 x3 x8 x9 aQ aI bn bX cM pV cY kX
def cT.Jm(N:Nat)(Yi:cT.afJ)(dE:cT.fC)(iZ:cT.oZ)(nv:cT.nu)(x2:Int)(x3:ae)(x8:ax)(x9:aX)(aQ:Int)(aI:ax)(bn:Int)(bX:Int)(cM:fV)(pV:ax)(cY:Int)(ga:Int):Option (aX×(Int)):=
 (mY N ga bn).bind fun wc=>cond (aJ cY (List.length aI)) (cond (aH (((List.getD aI cY.toNat cc).2).1) (0:Int)) (cond (aJ bX (List.length wc.1)) (cond (aJ bX (List.length wc.1)) (Yi x2 x3 x8 x9 aQ aI bn bX cM pV cY (List.set wc.1 bX.toNat (W .i64 (0-(List.getD wc.1 bX.toNat (0:Int)))))) (none)) (none)) (Yi x2 x3 x8 x9 aQ aI bn bX cM pV cY wc.1)) (none)
def cT.PJ(N:Nat)(dE:cT.fC)(iZ:cT.oZ)(nv:cT.nu)(x2:Int)(x3:ae)(x8:ax)(x9:aX)(aQ:Int)(aI:ax)(bn:Int)(bX:Int)(cM:fV)(pV:ax)(cY:Int)(ga:Int):Option (aX×(Int)):=cT.Jm N (cT.j32 N dE iZ nv) dE iZ nv x2 x3 x8 x9 aQ aI bn bX cM pV cY ga
def cT.zb(N:Nat)(GB:cT.Qp)(dE:cT.fC)(iZ:cT.oZ)(nv:cT.nu)(x2:Int)(x3:ae)(x8:ax)(x9:aX)(aQ:Int)(aI:ax)(bn:Int)(bX:Int)(cM:fV)(pV:ax)(cY:Int):Option (aX×(Int)):=
 cond (aH cY (List.length aI:Int)) (cond (aJ cY (List.length aI)) (cond (aH (((List.getD aI cY.toNat cc).2).1) (0:Int)) (GB x2 x3 x8 x9 aQ aI bn bX cM pV cY (W .i64 (0-(((List.getD aI cY.toNat cc).2).1)))) (GB x2 x3 x8 x9 aQ aI bn bX cM pV cY (((List.getD aI cY.toNat cc).2).1))) (none)) (cond (az (List.length pV:Int) 0) (iZ x2 x3 x8 x9 aQ aI bn (W .i64 (bX+1))) ((PK N x3 pV).bind fun Ec=>(Nd N Ec.1).bind fun Ed=>(qQ N Ed).bind fun xc=>cond (!xc.2) (some ([],(2:Int))) (cond (small (List.length x9+List.length ([(cM.1,(pV,(xc.1,cM.2.2.2)))]))) (iZ (W .i64 (x2+1)) x3 x8 (x9++([(cM.1,(pV,(xc.1,cM.2.2.2)))])) aQ aI bn (W .i64 (bX+1))) (none))))
def cT.yf(N:Nat)(dE:cT.fC)(iZ:cT.oZ):Nat→cT.nu
 |0,_,_,_,_,_,_,_,_,_,_,_=>none
 |n+1,x2,x3,x8,x9,aQ,aI,bn,bX,cM,pV,cY=>cT.zb N (cT.PJ N dE iZ (cT.yf N dE iZ n)) dE iZ (cT.yf N dE iZ n) x2 x3 x8 x9 aQ aI bn bX cM pV cY
def cT.Jl(N:Nat)(Gr:cT.nu)(dE:cT.fC)(iZ:cT.oZ)(x2:Int)(x3:ae)(x8:ax)(x9:aX)(aQ:Int)(aI:ax)(bn:Int)(bX:Int):Option (aX×(Int)):=
 cond (aH bX bn) (Gr x2 x3 x8 x9 aQ aI bn bX (x2,(bK,((0:Int),((1:Int),cc)))) bK (0:Int)) (dE x2 x3 x8 x9 (W .i64 (aQ+1)))
def cT.DI(N:Nat)(dE:cT.fC):Nat→cT.oZ
 |0,_,_,_,_,_,_,_,_=>none
 |n+1,x2,x3,x8,x9,aQ,aI,bn,bX=>cT.Jl N (cT.yf N dE (cT.DI N dE n) N) dE (cT.DI N dE n) x2 x3 x8 x9 aQ aI bn bX
def cT.jO(N:Nat)(Qq:cT.oZ)(dE:cT.fC)(fk:cT.dW)(x2:Int)(x3:ae)(x8:ax)(x9:aX)(aQ:Int)(aI:ax)(aL:av)(bo:Int):Option (aX×(Int)):=
 cond (aH bo (List.length x8:Int)) (cond (aJ bo (List.length x8)) (cond (aJ ((List.getD x8 bo.toNat cc).1) (List.length x3.1)) (cond (az ((List.getD x3.1 ((List.getD x8 bo.toNat cc).1).toNat aN).1) aQ) (cond (aJ bo (List.length x8)) (cond (small (List.length aI+List.length ([List.getD x8 bo.toNat cc]))) (cond (aJ bo (List.length x8)) ((gl N (((List.getD x8 bo.toNat cc).2).1)).bind fun r6=>(Ov N r6).bind fun r7=>(uk N aL r7).bind fun r8=>fk x2 x3 x8 x9 aQ (aI++([List.getD x8 bo.toNat cc])) r8 (W .i64 (bo+1))) (none)) (none)) (none)) (fk x2 x3 x8 x9 aQ aI aL (W .i64 (bo+1)))) (none)) (none)) ((ng N aL x3.2.2.2.2.2.1).bind fun kZ=>Qq x2 x3 x8 x9 aQ aI kZ (0:Int))
def cT.lz(N:Nat)(dE:cT.fC):Nat→cT.dW
 |0,_,_,_,_,_,_,_,_=>none
 |n+1,x2,x3,x8,x9,aQ,aI,aL,bo=>cT.jO N (cT.DI N dE N) dE (cT.lz N dE n) x2 x3 x8 x9 aQ aI aL bo
def cT.yj(N:Nat)(oX:cT.dW)(dE:cT.fC)(x2:Int)(x3:ae)(x8:ax)(x9:aX)(aQ:Int):Option (aX×(Int)):=
 cond (aH aQ 4) (oX x2 x3 x8 x9 aQ ([]) (false,ld) (0:Int)) (some (x9,(0:Int)))
def cT.l8(N:Nat):Nat→cT.fC
 |0,_,_,_,_,_=>none
 |n+1,x2,x3,x8,x9,aQ=>cT.yj N (cT.lz N (cT.l8 N n) N) (cT.l8 N n) x2 x3 x8 x9 aQ
def cT.b(N:Nat)(An:cT.fC)(a0:ae)(a1:ah)(a2:Int):Option (aX×(Int)):=
 (bD N a0 a1).bind fun r1=>cond (!r1) (some ([],(1:Int))) (cond (aH a2 1) (some ([],(1:Int))) (cond (aH 1099511627764 a2) (some ([],(1:Int))) ((sL N a1.2.2.2.1 (0:Int)).bind fun r2=>cond (az (List.length r2:Int) 0) (some ([],(3:Int))) (An a2 a0 r2 ([]) (0:Int)))))
def cT(N:Nat)(a0:ae)(a1:ah)(a2:Int):Option (aX×(Int)):=cT.b N (cT.l8 N N) a0 a1 a2
abbrev nh.bl:=ah→(List (Int))→Int→Option ((List (Int))×(Int))
def nh.dq(N:Nat)(bf:nh.bl)(x3:ah)(x6:List (Int))(x7:Int):Option ((List (Int))×(Int)):=
 cond (aH x7 (List.length x3.1:Int)) (cond (aJ x7 (List.length x3.1)) (cond (az (((List.getD x3.1 x7.toNat cc).2).1) (1:Int)) (cond (aJ x7 (List.length x3.1)) ((qo N x3.2.2.1 (6:Int) ((List.getD x3.1 x7.toNat cc).1)).bind fun r3=>cond (aH 0 r3) (cond (aJ x7 (List.length x3.1)) (cond (small (List.length x6+List.length ([(List.getD x3.1 x7.toNat cc).1]))) (bf x3 (x6++([(List.getD x3.1 x7.toNat cc).1])) (W .i64 (x7+1))) (none)) (none)) (bf x3 x6 (W .i64 (x7+1)))) (none)) (bf x3 x6 (W .i64 (x7+1)))) (none)) (some (x6,(0:Int)))
def nh.l5(N:Nat):Nat→nh.bl
 |0,_,_,_=>none
 |n+1,x3,x6,x7=>nh.dq N (nh.l5 N n) x3 x6 x7
def nh.b(N:Nat)(dL:nh.bl)(a0:ae)(a1:ah):Option ((List (Int))×(Int)):=
 (bD N a0 a1).bind fun r1=>cond (!r1) (some ([],(1:Int))) (dL a1 ([]) (0:Int))
def nh(N:Nat)(a0:ae)(a1:ah):Option ((List (Int))×(Int)):=nh.b N (nh.l5 N N) a0 a1
abbrev fh.JA:=aX→ae→Int→fV→Option (Bool)
abbrev fh.aW:=aX→ae→Int→Option (Bool)
def fh.IE(N:Nat)(bt:fh.aW)(x1:aX)(x2:ae)(x5:Int)(x6:fV):Option (Bool):=
 cond (az x6.2.2.2.1 1) (cond (!az x6.2.2.2.2.1 0) (some false) (cond (!az x6.2.2.2.2.2.1 0) (some false) (bt x1 x2 (W .i64 (x5+1))))) (cond (az x6.2.2.2.1 3) (cond (!az x6.2.2.2.2.1 0) (some false) (cond (!az x6.2.2.2.2.2.1 0) (some false) (bt x1 x2 (W .i64 (x5+1))))) (cond (az x6.2.2.2.1 2) (cond (aH x6.2.2.2.2.1 1) (some false) (cond (aH 12 x6.2.2.2.2.1) (some false) (cond (aH x6.2.2.2.2.2.1 (-1152921504606846976)) (some false) (cond (aH 1152921504606846976 x6.2.2.2.2.2.1) (some false) (bt x1 x2 (W .i64 (x5+1))))))) (some false)))
def fh.j9(N:Nat)(bt:fh.aW)(x1:aX)(x2:ae)(x5:Int)(x6:fV):Option (Bool):=fh.IE N bt x1 x2 x5 x6
def fh.cn(N:Nat)(Am:fh.JA)(bt:fh.aW)(x1:aX)(x2:ae)(x5:Int):Option (Bool):=
 cond (aH x5 (List.length x1:Int)) (cond (aJ x5 (List.length x1)) (cond (aH ((List.getD x1 x5.toNat ((0:Int),(bK,aN))).1) (1:Int)) (some false) (cond (aH 1099511627776 ((List.getD x1 x5.toNat ((0:Int),(bK,aN))).1)) (some false) (cond (aH 0 x5) (let v3:Int:=W .i64 (x5-1);cond (aJ v3 (List.length x1)) (cond (bV ((List.getD x1 x5.toNat ((0:Int),(bK,aN))).1) ((List.getD x1 v3.toNat ((0:Int),(bK,aN))).1)) (some false) (cond (az (List.length (((List.getD x1 x5.toNat ((0:Int),(bK,aN))).2).1):Int) (0:Int)) (some false) ((jy N x2 (((List.getD x1 x5.toNat ((0:Int),(bK,aN))).2).1)).bind fun r4=>cond (!r4) (some false) (cond (aH 0 ((((List.getD x1 x5.toNat ((0:Int),(bK,aN))).2).2).1)) (some false) (Am x1 x2 x5 (List.getD x1 x5.toNat ((0:Int),(bK,aN)))))))) (none)) (cond (az (List.length (((List.getD x1 x5.toNat ((0:Int),(bK,aN))).2).1):Int) (0:Int)) (some false) ((jy N x2 (((List.getD x1 x5.toNat ((0:Int),(bK,aN))).2).1)).bind fun r9=>cond (!r9) (some false) (cond (aH 0 ((((List.getD x1 x5.toNat ((0:Int),(bK,aN))).2).2).1)) (some false) (Am x1 x2 x5 (List.getD x1 x5.toNat ((0:Int),(bK,aN)))))))))) (none)) (some true)
def fh.l4(N:Nat):Nat→fh.aW
 |0,_,_,_=>none
 |n+1,x1,x2,x5=>fh.cn N (fh.j9 N (fh.l4 N n)) (fh.l4 N n) x1 x2 x5
def fh.b(N:Nat)(cW:fh.aW)(a0:ae)(a1:aX):Option (Bool):=
 (iH N a0).bind fun r1=>cond (!r1) (some false) (cond (aH 12 (List.length a1:Int)) (some false) (cW a1 a0 (0:Int)))
def fh(N:Nat)(a0:ae)(a1:aX):Option (Bool):=fh.b N (fh.l4 N N) a0 a1
abbrev lY.bW:=aX→Int→fV→Int→Option (fV×(Bool))
def lY.eu(N:Nat)(c0:lY.bW)(x0:aX)(x1:Int)(x4:fV)(x6:Int):Option (fV×(Bool)):=
 cond (aH x6 (List.length x0:Int)) (cond (aJ x6 (List.length x0)) (cond (az ((List.getD x0 x6.toNat ((0:Int),(bK,aN))).1) x1) (cond (aJ x6 (List.length x0)) (some (List.getD x0 x6.toNat ((0:Int),(bK,aN)),true)) (none)) (c0 x0 x1 x4 (W .i64 (x6+1)))) (none)) (some (((0:Int),(bK,aN)),false))
def lY.l2(N:Nat):Nat→lY.bW
 |0,_,_,_,_=>none
 |n+1,x0,x1,x4,x6=>lY.eu N (lY.l2 N n) x0 x1 x4 x6
def lY.b(N:Nat)(fB:lY.bW)(a0:aX)(a1:Int):Option (fV×(Bool)):=
 fB a0 a1 ((0:Int),(bK,aN)) (0:Int)
def lY(N:Nat)(a0:aX)(a1:Int):Option (fV×(Bool)):=lY.b N (lY.l2 N N) a0 a1
abbrev c8.fK:=ax→ax→ax→Int→av→Int→Option (ax×(Bool))
abbrev c8.cN:=ax→ax→ax→Int→av→Int→Option (ax×(Bool))
abbrev c8.ch:=ax→ax→ax→Int→Option (ax×(Bool))
def c8.lR(N:Nat)(bU:c8.ch)(iq:c8.fK)(x0:ax)(x1:ax)(x6:ax)(x7:Int)(x8:av)(aQ:Int):Option (ax×(Bool)):=
 cond (aH aQ (List.length x1:Int)) (cond (aJ aQ (List.length x1)) (cond (az ((List.getD x1 aQ.toNat cc).1) x7) (cond (aJ aQ (List.length x1)) ((gl N (((List.getD x1 aQ.toNat cc).2).1)).bind fun r8=>(uk N x8 r8).bind fun r9=>iq x0 x1 x6 x7 r9 (W .i64 (aQ+1))) (none)) (iq x0 x1 x6 x7 x8 (W .i64 (aQ+1)))) (none)) ((IV N x8).bind fun mv=>cond (!mv.2) (some ([],false)) (cond (!az mv.1 0) (cond (small (List.length x6+List.length ([(x7,(mv.1,()))]))) (bU x0 x1 (x6++([(x7,(mv.1,()))])) (W .i64 (x7+1))) (none)) (bU x0 x1 x6 (W .i64 (x7+1)))))
def c8.nA(N:Nat)(bU:c8.ch):Nat→c8.fK
 |0,_,_,_,_,_,_=>none
 |n+1,x0,x1,x6,x7,x8,aQ=>c8.lR N bU (c8.nA N bU n) x0 x1 x6 x7 x8 aQ
def c8.ll(N:Nat)(rn:c8.fK)(bU:c8.ch)(cE:c8.cN)(x0:ax)(x1:ax)(x6:ax)(x7:Int)(x8:av)(x9:Int):Option (ax×(Bool)):=
 cond (aH x9 (List.length x0:Int)) (cond (aJ x9 (List.length x0)) (cond (az ((List.getD x0 x9.toNat cc).1) x7) (cond (aJ x9 (List.length x0)) ((gl N (((List.getD x0 x9.toNat cc).2).1)).bind fun r3=>(uk N x8 r3).bind fun r4=>cE x0 x1 x6 x7 r4 (W .i64 (x9+1))) (none)) (cE x0 x1 x6 x7 x8 (W .i64 (x9+1)))) (none)) (rn x0 x1 x6 x7 x8 (0:Int))
def c8.l7(N:Nat)(bU:c8.ch):Nat→c8.cN
 |0,_,_,_,_,_,_=>none
 |n+1,x0,x1,x6,x7,x8,x9=>c8.ll N (c8.nA N bU N) bU (c8.l7 N bU n) x0 x1 x6 x7 x8 x9
def c8.g7(N:Nat)(nx:c8.cN)(bU:c8.ch)(x0:ax)(x1:ax)(x6:ax)(x7:Int):Option (ax×(Bool)):=
 cond (aH x7 6) (nx x0 x1 x6 x7 (false,ld) (0:Int)) (some (x6,true))
def c8.l3(N:Nat):Nat→c8.ch
 |0,_,_,_,_=>none
 |n+1,x0,x1,x6,x7=>c8.g7 N (c8.l7 N (c8.l3 N n) N) (c8.l3 N n) x0 x1 x6 x7
def c8.b(N:Nat)(iN:c8.ch)(a0:ax)(a1:ax):Option (ax×(Bool)):=
 iN a0 a1 ([]) (0:Int)
def c8(N:Nat)(a0:ax)(a1:ax):Option (ax×(Bool)):=c8.b N (c8.l3 N N) a0 a1
def aaa(N:Nat)(a0:a6)(a1:Int):Option aj:=
 (jd N a0).bind fun r1=>cond (!r1) (some ([])) ((eI N a0 a1).bind fun r2=>some r2)
abbrev gS.dW:=aE→ae→ah→bR→fV→Int→Int→Option (Int)
abbrev gS.ak0:=aX→aE→ae→ah→bR→Option (Int)
def gS.jO(N:Nat)(fk:gS.dW)(x3:aE)(x5:ae)(x6:ah)(x9:bR)(aL:fV)(bn:Int)(bX:Int):Option (Int):=
 cond (aH bX (List.length x3:Int)) (cond (aJ bX (List.length x3)) (cond (az ((((List.getD x3 bX.toNat aN).2).2).1) x9.2.2.1) (cond (aJ bX (List.length x3)) (cond (az (((List.getD x3 bX.toNat aN).2).1) x9.2.1) (some (4:Int)) (fk x3 x5 x6 x9 aL bn (W .i64 (bX+1)))) (none)) (fk x3 x5 x6 x9 aL bn (W .i64 (bX+1)))) (none)) (cond (az (List.length x3:Int) 40) (some (5:Int)) ((gl N x9.2.2.2.1).bind fun nK=>(gl N (4:Int)).bind fun oz=>(gl N aL.2.2.1).bind fun sN=>(fX N oz sN).bind fun wc=>(H5 N nK wc).bind fun vo=>cond (aH vo 0) (some (11:Int)) ((sL N x6.2.2.2.1 bn).bind fun vp=>(c8 N vp aL.2.1).bind fun GA=>cond (!GA.2) (some (2:Int)) ((aaa N x6.2.2.2.2.2.1 bn).bind fun Gw=>(lW N x5 GA.1 Gw).bind fun H9=>(Jj N x6 bn).bind fun Ib=>(gl N Ib).bind fun Ab=>(gl N x9.2.2.2.1).bind fun Ec=>(Km N Ab Ec).bind fun Ed=>(H5 N Ed H9.1).bind fun xc=>cond (aH xc 0) (some (10:Int)) (some (0:Int))))))
def gS.lz(N:Nat):Nat→gS.dW
 |0,_,_,_,_,_,_,_=>none
 |n+1,x3,x5,x6,x9,aL,bn,bX=>gS.jO N (gS.lz N n) x3 x5 x6 x9 aL bn bX
def gS.j3b(N:Nat)(oX:gS.dW)(x2:aX)(x3:aE)(x5:ae)(x6:ah)(x9:bR):Option (Int):=
 (DH N x6 x9.2.2.1).bind fun r7=>cond (az r7 0) (some (3:Int)) (cond (!az r7 1) (some (7:Int)) ((lY N x2 x9.2.1).bind fun r8=>(tb N x6.2.1 x9.2.2.1).bind fun r9=>cond (!r8.2) (some (3:Int)) (cond (!az r8.1.2.2.2.1 1) (some (3:Int)) (cond (az r9 0) (some (3:Int)) (oX x3 x5 x6 x9 r8.1 r9 (0:Int))))))
def gS.j3(N:Nat)(x2:aX)(x3:aE)(x5:ae)(x6:ah)(x9:bR):Option (Int):=gS.j3b N (gS.lz N N) x2 x3 x5 x6 x9
def gS.b(N:Nat)(afK:gS.ak0)(a0:ae)(a1:ah)(a2:aX)(a3:aE)(a4:bR):Option (Int):=
 (bD N a0 a1).bind fun r1=>cond (!r1) (some (1:Int)) ((fh N a0 a2).bind fun r2=>cond (!r2) (some (1:Int)) ((cZ N a3).bind fun r3=>cond (!r3) (some (1:Int)) ((OJ N a4).bind fun r4=>cond (!r4) (some (1:Int)) (cond (aH 0 (List.length a3:Int)) (let v5:Int:=W .i64 ((List.length a3:Int)-1);cond (aJ v5 (List.length a3)) (cond (bV a4.1 ((List.getD a3 v5.toNat aN).1)) (some (1:Int)) (afK a2 a3 a0 a1 a4)) (none)) (afK a2 a3 a0 a1 a4)))))
def gS(N:Nat)(a0:ae)(a1:ah)(a2:aX)(a3:aE)(a4:bR):Option (Int):=gS.b N (gS.j3 N) a0 a1 a2 a3 a4
def S2(N:Nat)(a0:ae)(a1:ah)(a2:aX)(a3:aE)(a4:bR):Option (aE×(Int)):=
 (gS N a0 a1 a2 a3 a4).bind fun r1=>cond (!az r1 0) (some ([],r1)) (cond (small (List.length cL+List.length a3)) (let v2:List ((Int)×((Int)×((Int)×((Int)×(Unit))))):=cL++a3;cond (small (List.length v2+List.length ([a4]))) (some ((v2++([a4])),(0:Int))) (none)) (none))
abbrev z2.fg:=aE→Int→bR→bR→Bool→Int→Option (bR×(Bool))
def z2.ow(N:Nat)(fP:z2.fg)(x0:aE)(x1:Int)(x4:bR)(x6:bR)(x7:Bool)(x8:Int):Option (bR×(Bool)):=
 cond (aH x8 (List.length x0:Int)) (cond (aJ x8 (List.length x0)) (cond (az (((List.getD x0 x8.toNat aN).2).1) x1) (cond (!x7) (cond (aJ x8 (List.length x0)) (fP x0 x1 x4 (List.getD x0 x8.toNat aN) true (W .i64 (x8+1))) (none)) (cond (aJ x8 (List.length x0)) (cond (aH x6.2.2.2.1 (((((List.getD x0 x8.toNat aN).2).2).2).1)) (cond (aJ x8 (List.length x0)) (fP x0 x1 x4 (List.getD x0 x8.toNat aN) true (W .i64 (x8+1))) (none)) (fP x0 x1 x4 x6 x7 (W .i64 (x8+1)))) (none))) (fP x0 x1 x4 x6 x7 (W .i64 (x8+1)))) (none)) (some (x6,x7))
def z2.l6(N:Nat):Nat→z2.fg
 |0,_,_,_,_,_,_=>none
 |n+1,x0,x1,x4,x6,x7,x8=>z2.ow N (z2.l6 N n) x0 x1 x4 x6 x7 x8
def z2.b(N:Nat)(pU:z2.fg)(a0:aE)(a1:Int):Option (bR×(Bool)):=
 (cZ N a0).bind fun r1=>cond (!r1) (some (aN,false)) (pU a0 a1 aN aN false (0:Int))
def z2(N:Nat)(a0:aE)(a1:Int):Option (bR×(Bool)):=z2.b N (z2.l6 N N) a0 a1
abbrev ot.ns:=aX→aE→ah→ah→aj→bk→aX→Int→fV→bR→Int→Int→Option (ah×aX×(Int))
abbrev ot.cN:=aX→aE→ah→ah→aj→bk→aX→Int→Option (ah×aX×(Int))
def ot.qY(N:Nat)(cE:ot.cN)(Aa:ot.ns)(x2:aX)(x3:aE)(x5:ah)(x8:ah)(aI:aj)(aL:bk)(bo:aX)(bn:Int)(bX:fV)(cM:bR)(ga:Int)(kX:Int):Option (ah×aX×(Int)):=
 cond (aH kX (List.length bX.2.1:Int)) (cond (aJ kX (List.length bX.2.1)) (cond (aJ kX (List.length bX.2.1)) (let QZ:Int:=W .i64 (0-(((List.getD bX.2.1 kX.toNat cc).2).1));cond (aJ kX (List.length bX.2.1)) (cond (aJ kX (List.length bX.2.1)) (cond (small (List.length aI+List.length ([((0:Int),((List.getD bX.2.1 kX.toNat cc).1,(QZ,()))),(ga,((List.getD bX.2.1 kX.toNat cc).1,(((List.getD bX.2.1 kX.toNat cc).2).1,())))]))) (Aa x2 x3 x5 x8 (aI++([((0:Int),((List.getD bX.2.1 kX.toNat cc).1,(QZ,()))),(ga,((List.getD bX.2.1 kX.toNat cc).1,(((List.getD bX.2.1 kX.toNat cc).2).1,())))])) aL bo bn bX cM ga (W .i64 (kX+1))) (none)) (none)) (none)) (none)) (none)) ((gl N cM.2.2.2.1).bind fun vo=>(zX N (5:Int) ga (2:Int) (0:Int) vo).bind fun vp=>cond (small (List.length aL+List.length vp)) (cond (small (List.length bo+List.length ([bX]))) (cE x2 x3 x5 x8 aI (aL++vp) (bo++([bX])) (W .i64 (bn+1))) (none)) (none))
def ot.sv(N:Nat)(cE:ot.cN):Nat→ot.ns
 |0,_,_,_,_,_,_,_,_,_,_,_,_=>none
 |n+1,x2,x3,x5,x8,aI,aL,bo,bn,bX,cM,ga,kX=>ot.qY N cE (ot.sv N cE n) x2 x3 x5 x8 aI aL bo bn bX cM ga kX
def ot.ll(N:Nat)(Ac:ot.ns)(cE:ot.cN)(x2:aX)(x3:aE)(x5:ah)(x8:ah)(aI:aj)(aL:bk)(bo:aX)(bn:Int):Option (ah×aX×(Int)):=
 cond (aH bn (List.length x2:Int)) (cond (aJ bn (List.length x2)) (cond (small (List.length bK+List.length (((List.getD x2 bn.toNat ((0:Int),(bK,aN))).2).1))) (let v5:List ((Int)×((Int)×(Unit))):=bK++(((List.getD x2 bn.toNat ((0:Int),(bK,aN))).2).1);cond (!az (((((List.getD x2 bn.toNat ((0:Int),(bK,aN))).2).2).2).1) (1:Int)) (cond (small (List.length bo+List.length ([((List.getD x2 bn.toNat ((0:Int),(bK,aN))).1,(v5,((List.getD x2 bn.toNat ((0:Int),(bK,aN))).2).2))]))) (cE x2 x3 x5 x8 aI aL (bo++([((List.getD x2 bn.toNat ((0:Int),(bK,aN))).1,(v5,((List.getD x2 bn.toNat ((0:Int),(bK,aN))).2).2))])) (W .i64 (bn+1))) (none)) ((z2 N x3 ((List.getD x2 bn.toNat ((0:Int),(bK,aN))).1)).bind fun r8=>cond (!r8.2) (cond (small (List.length bo+List.length ([((List.getD x2 bn.toNat ((0:Int),(bK,aN))).1,(v5,((((List.getD x2 bn.toNat ((0:Int),(bK,aN))).2).2).1,((3:Int),((((List.getD x2 bn.toNat ((0:Int),(bK,aN))).2).2).2).2))))]))) (cE x2 x3 x5 x8 aI aL (bo++([((List.getD x2 bn.toNat ((0:Int),(bK,aN))).1,(v5,((((List.getD x2 bn.toNat ((0:Int),(bK,aN))).2).2).1,((3:Int),((((List.getD x2 bn.toNat ((0:Int),(bK,aN))).2).2).2).2))))])) (W .i64 (bn+1))) (none)) ((tb N x5.2.1 r8.1.2.2.1).bind fun kZ=>cond (az kZ 0) (some ((bK,(cL,(bp,(bp,(c4,(c9,())))))),[],(3:Int))) ((DH N x5 r8.1.2.2.1).bind fun mv=>cond (az mv 0) (some ((bK,(cL,(bp,(bp,(c4,(c9,())))))),[],(3:Int))) (Ac x2 x3 x5 x8 aI aL bo bn ((List.getD x2 bn.toNat ((0:Int),(bK,aN))).1,(v5,((((List.getD x2 bn.toNat ((0:Int),(bK,aN))).2).2).1,((2:Int),(r8.1.2.2.1,(r8.1.2.2.2.1,((((((List.getD x2 bn.toNat ((0:Int),(bK,aN))).2).2).2).2).2).2)))))) r8.1 kZ (0:Int)))))) (none)) (none)) ((uR N x5 aI aL).bind fun Ib=>cond (!az Ib.2 0) (some ((bK,(cL,(bp,(bp,(c4,(c9,())))))),[],Ib.2)) (some (Ib.1,bo,(0:Int))))
def ot.l7(N:Nat):Nat→ot.cN
 |0,_,_,_,_,_,_,_,_=>none
 |n+1,x2,x3,x5,x8,aI,aL,bo,bn=>ot.ll N (ot.sv N (ot.l7 N n) N) (ot.l7 N n) x2 x3 x5 x8 aI aL bo bn
def ot.b(N:Nat)(nx:ot.cN)(a0:ae)(a1:ah)(a2:aX)(a3:aE):Option (ah×aX×(Int)):=
 (bD N a0 a1).bind fun r1=>cond (!r1) (some ((bK,(cL,(bp,(bp,(c4,(c9,())))))),[],(1:Int))) ((fh N a0 a2).bind fun r2=>cond (!r2) (some ((bK,(cL,(bp,(bp,(c4,(c9,())))))),[],(1:Int))) ((cZ N a3).bind fun r3=>cond (!r3) (some ((bK,(cL,(bp,(bp,(c4,(c9,())))))),[],(1:Int))) (nx a2 a3 a1 (bK,(cL,(bp,(bp,(c4,(c9,())))))) ([]) ([]) ([]) (0:Int))))
def ot(N:Nat)(a0:ae)(a1:ah)(a2:aX)(a3:aE):Option (ah×aX×(Int)):=ot.b N (ot.l7 N N) a0 a1 a2 a3
abbrev kV.bW:=ax→Int→Option (Bool)
def kV.eu(N:Nat)(c0:kV.bW)(x0:ax)(x3:Int):Option (Bool):=
 cond (aH x3 (List.length x0:Int)) (cond (aJ x3 (List.length x0)) (cond (aH ((List.getD x0 x3.toNat cc).1) (1:Int)) (some false) (cond (aJ x3 (List.length x0)) (cond (aH 12 ((List.getD x0 x3.toNat cc).1)) (some false) (cond (aJ x3 (List.length x0)) (cond (aH (((List.getD x0 x3.toNat cc).2).1) (1:Int)) (some false) (cond (aJ x3 (List.length x0)) (cond (aH 4 (((List.getD x0 x3.toNat cc).2).1)) (some false) (cond (aH 0 x3) (cond (aJ x3 (List.length x0)) (let v2:Int:=W .i64 (x3-1);cond (aJ v2 (List.length x0)) (cond (bV ((List.getD x0 x3.toNat cc).1) ((List.getD x0 v2.toNat cc).1)) (some false) (c0 x0 (W .i64 (x3+1)))) (none)) (none)) (c0 x0 (W .i64 (x3+1))))) (none))) (none))) (none))) (none)) (some true)
def kV.l2(N:Nat):Nat→kV.bW
 |0,_,_=>none
 |n+1,x0,x3=>kV.eu N (kV.l2 N n) x0 x3
def kV.b(N:Nat)(fB:kV.bW)(a0:ax):Option (Bool):=
 fB a0 (0:Int)
def kV(N:Nat)(a0:ax):Option (Bool):=kV.b N (kV.l2 N N) a0
abbrev ni.bW:=(List (Int))→Int→Option (Bool)
def ni.eu(N:Nat)(c0:ni.bW)(x0:List (Int))(x3:Int):Option (Bool):=
 cond (aH x3 (List.length x0:Int)) (cond (aJ x3 (List.length x0)) (cond (aH (List.getD x0 x3.toNat (0:Int)) (1:Int)) (some false) (cond (aJ x3 (List.length x0)) (cond (aH 12 (List.getD x0 x3.toNat (0:Int))) (some false) (cond (aH 0 x3) (cond (aJ x3 (List.length x0)) (let v2:Int:=W .i64 (x3-1);cond (aJ v2 (List.length x0)) (cond (bV (List.getD x0 x3.toNat (0:Int)) (List.getD x0 v2.toNat (0:Int))) (some false) (c0 x0 (W .i64 (x3+1)))) (none)) (none)) (c0 x0 (W .i64 (x3+1))))) (none))) (none)) (some true)
def ni.l2(N:Nat):Nat→ni.bW
 |0,_,_=>none
 |n+1,x0,x3=>ni.eu N (ni.l2 N n) x0 x3
def ni.b(N:Nat)(fB:ni.bW)(a0:List (Int)):Option (Bool):=
 fB a0 (0:Int)
def ni(N:Nat)(a0:List (Int)):Option (Bool):=ni.b N (ni.l2 N N) a0
abbrev fI.fK:=Int→aX→Int→Int→Option (Int)
abbrev fI.ch:=Int→aX→aE→Int→Int→Option (Int)
def fI.lR(N:Nat)(iq:fI.fK)(x0:Int)(x1:aX)(x7:Int)(aL:Int):Option (Int):=
 cond (aH aL (List.length x1:Int)) (cond (aJ aL (List.length x1)) (cond (az (((((List.getD x1 aL.toNat ((0:Int),(bK,aN))).2).2).2).1) (2:Int)) (cond (aJ aL (List.length x1)) (cond (az ((((((List.getD x1 aL.toNat ((0:Int),(bK,aN))).2).2).2).2).1) x0) (iq x0 x1 (4:Int) (W .i64 (aL+1))) (iq x0 x1 x7 (W .i64 (aL+1)))) (none)) (iq x0 x1 x7 (W .i64 (aL+1)))) (none)) (some x7)
def fI.nA(N:Nat):Nat→fI.fK
 |0,_,_,_,_=>none
 |n+1,x0,x1,x7,aL=>fI.lR N (fI.nA N n) x0 x1 x7 aL
def fI.g7(N:Nat)(rn:fI.fK)(bU:fI.ch)(x0:Int)(x1:aX)(x2:aE)(x7:Int)(x8:Int):Option (Int):=
 cond (aH x8 (List.length x2:Int)) (cond (aJ x8 (List.length x2)) (cond (!az ((((List.getD x2 x8.toNat aN).2).2).1) x0) (bU x0 x1 x2 x7 (W .i64 (x8+1))) (cond (aJ x8 (List.length x2)) ((lY N x1 (((List.getD x2 x8.toNat aN).2).1)).bind fun r3=>cond (r3.2) (cond (aJ x8 (List.length x2)) (cond (bV r3.1.2.2.1 (((((List.getD x2 x8.toNat aN).2).2).2).1)) (bU x0 x1 x2 (mx x7 3) (W .i64 (x8+1))) (bU x0 x1 x2 (mx x7 2) (W .i64 (x8+1)))) (none)) (bU x0 x1 x2 (mx x7 2) (W .i64 (x8+1)))) (none))) (none)) (rn x0 x1 x7 (0:Int))
def fI.l3(N:Nat):Nat→fI.ch
 |0,_,_,_,_,_=>none
 |n+1,x0,x1,x2,x7,x8=>fI.g7 N (fI.nA N N) (fI.l3 N n) x0 x1 x2 x7 x8
def fI.b(N:Nat)(iN:fI.ch)(a0:Int)(a1:aX)(a2:aE):Option (Int):=
 iN a0 a1 a2 (1:Int) (0:Int)
def fI(N:Nat)(a0:Int)(a1:aX)(a2:aE):Option (Int):=fI.b N (fI.l3 N N) a0 a1 a2
abbrev cr.nw:=ax→(List (Int))→aX→aE→ax→Int→Int→Bool→Int→Option (ax×(Int))
abbrev cr.rp:=ax→(List (Int))→aX→aE→ax→Int→Int→Bool→Int→Option (ax×(Int))
abbrev cr.kp:=ax→(List (Int))→aX→aE→ax→Int→Int→Bool→Int→Option (ax×(Int))
abbrev cr.bl:=ax→(List (Int))→aX→aE→ax→Int→Option (ax×(Int))
def cr.tp(N:Nat)(bf:cr.bl)(vd:cr.nw)(x1:ax)(x2:List (Int))(x3:aX)(x4:aE)(aL:ax)(bo:Int)(bn:Int)(bX:Bool)(ga:Int):Option (ax×(Int)):=
 cond (aH ga (List.length x4:Int)) (cond (bX) (vd x1 x2 x3 x4 aL bo bn true (W .i64 (ga+1))) (cond (aJ ga (List.length x4)) (vd x1 x2 x3 x4 aL bo bn (az ((((List.getD x4 ga.toNat aN).2).2).1) bo) (W .i64 (ga+1))) (none))) (cond (bX) ((fI N bo x3 x4).bind fun sN=>let Ql:Int:=mx bn sN;cond (small (List.length aL+List.length ([(bo,(Ql,()))]))) (bf x1 x2 x3 x4 (aL++([(bo,(Ql,()))])) (W .i64 (bo+1))) (none)) (bf x1 x2 x3 x4 aL (W .i64 (bo+1))))
def cr.vR(N:Nat)(bf:cr.bl):Nat→cr.nw
 |0,_,_,_,_,_,_,_,_,_=>none
 |n+1,x1,x2,x3,x4,aL,bo,bn,bX,ga=>cr.tp N bf (cr.vR N bf n) x1 x2 x3 x4 aL bo bn bX ga
def cr.zM(N:Nat)(Ah:cr.nw)(bf:cr.bl)(xe:cr.rp)(x1:ax)(x2:List (Int))(x3:aX)(x4:aE)(aL:ax)(bo:Int)(bn:Int)(bX:Bool)(cY:Int):Option (ax×(Int)):=
 cond (aH cY (List.length x2:Int)) (cond (bX) (xe x1 x2 x3 x4 aL bo bn true (W .i64 (cY+1))) (cond (aJ cY (List.length x2)) (xe x1 x2 x3 x4 aL bo bn (az (List.getD x2 cY.toNat (0:Int)) bo) (W .i64 (cY+1))) (none))) (Ah x1 x2 x3 x4 aL bo bn bX (0:Int))
def cr.B7(N:Nat)(bf:cr.bl):Nat→cr.rp
 |0,_,_,_,_,_,_,_,_,_=>none
 |n+1,x1,x2,x3,x4,aL,bo,bn,bX,cY=>cr.zM N (cr.vR N bf N) bf (cr.B7 N bf n) x1 x2 x3 x4 aL bo bn bX cY
def cr.vk(N:Nat)(Gz:cr.rp)(bf:cr.bl)(oY:cr.kp)(x1:ax)(x2:List (Int))(x3:aX)(x4:aE)(aL:ax)(bo:Int)(bn:Int)(bX:Bool)(cM:Int):Option (ax×(Int)):=
 cond (aH cM (List.length x1:Int)) (cond (aJ cM (List.length x1)) (cond (az ((List.getD x1 cM.toNat cc).1) bo) (cond (aJ cM (List.length x1)) (oY x1 x2 x3 x4 aL bo (((List.getD x1 cM.toNat cc).2).1) true (W .i64 (cM+1))) (none)) (oY x1 x2 x3 x4 aL bo bn bX (W .i64 (cM+1)))) (none)) (Gz x1 x2 x3 x4 aL bo bn bX (0:Int))
def cr.l9(N:Nat)(bf:cr.bl):Nat→cr.kp
 |0,_,_,_,_,_,_,_,_,_=>none
 |n+1,x1,x2,x3,x4,aL,bo,bn,bX,cM=>cr.vk N (cr.B7 N bf N) bf (cr.l9 N bf n) x1 x2 x3 x4 aL bo bn bX cM
def cr.dq(N:Nat)(we:cr.kp)(bf:cr.bl)(x1:ax)(x2:List (Int))(x3:aX)(x4:aE)(aL:ax)(bo:Int):Option (ax×(Int)):=
 cond (bV bo 12) (we x1 x2 x3 x4 aL bo (0:Int) false (0:Int)) (some (aL,(0:Int)))
def cr.l5(N:Nat):Nat→cr.bl
 |0,_,_,_,_,_,_=>none
 |n+1,x1,x2,x3,x4,aL,bo=>cr.dq N (cr.l9 N (cr.l5 N n) N) (cr.l5 N n) x1 x2 x3 x4 aL bo
def cr.b(N:Nat)(dL:cr.bl)(a0:ae)(a1:ax)(a2:List (Int))(a3:aX)(a4:aE):Option (ax×(Int)):=
 (kV N a1).bind fun r1=>cond (!r1) (some ([],(1:Int))) ((ni N a2).bind fun r2=>cond (!r2) (some ([],(1:Int))) ((fh N a0 a3).bind fun r3=>cond (!r3) (some ([],(1:Int))) ((cZ N a4).bind fun r4=>cond (!r4) (some ([],(1:Int))) (dL a1 a2 a3 a4 ([]) (1:Int)))))
def cr(N:Nat)(a0:ae)(a1:ax)(a2:List (Int))(a3:aX)(a4:aE):Option (ax×(Int)):=cr.b N (cr.l5 N N) a0 a1 a2 a3 a4
def Jo(N:Nat)(a0:bc)(a1:ah)(a2:Int)(a3:Int)(a4:Int):Option bc:=
 (qo N a1.2.2.1 a3 a4).bind fun r1=>cond (aH 0 r1) (cond (small (List.length a0+List.length ([(a2,(a3,(a4,(r1,((0:Int),())))))]))) (some (a0++([(a2,(a3,(a4,(r1,((0:Int),())))))]))) (none)) (some a0)
def PO(N:Nat)(a0:Int):Option (Bool):=
 cond (az a0 1) (some true) (some (az a0 2))
abbrev nj.aW:=ax→Int→Int→Option (Int)
def nj.cn(N:Nat)(bt:nj.aW)(x0:ax)(x1:Int)(x5:Int):Option (Int):=
 cond (aH x5 (List.length x0:Int)) (cond (aJ x5 (List.length x0)) (cond (az ((List.getD x0 x5.toNat cc).1) x1) (cond (aJ x5 (List.length x0)) (some (((List.getD x0 x5.toNat cc).2).1)) (none)) (bt x0 x1 (W .i64 (x5+1)))) (none)) (some (1:Int))
def nj.l4(N:Nat):Nat→nj.aW
 |0,_,_,_=>none
 |n+1,x0,x1,x5=>nj.cn N (nj.l4 N n) x0 x1 x5
def nj.b(N:Nat)(cW:nj.aW)(a0:ax)(a1:Int):Option (Int):=
 (kV N a0).bind fun r1=>cond (!r1) (some (0:Int)) (cW a0 a1 (0:Int))
def nj(N:Nat)(a0:ax)(a1:Int):Option (Int):=nj.b N (nj.l4 N N) a0 a1
abbrev nk.bl:=ax→Int→Int→ah→(List (Int))→Int→Option ((List (Int))×(Int))
def nk.dq(N:Nat)(bf:nk.bl)(x2:ax)(x3:Int)(x4:Int)(x6:ah)(aL:List (Int))(bo:Int):Option ((List (Int))×(Int)):=
 cond (aH bo (List.length x6.1:Int)) (cond (aJ bo (List.length x6.1)) ((PO N (((List.getD x6.1 bo.toNat cc).2).1)).bind fun r4=>cond (r4) (cond (!az ((List.getD x6.1 bo.toNat cc).1) x3) ((qo N x6.2.2.1 (6:Int) ((List.getD x6.1 bo.toNat cc).1)).bind fun r5=>cond (aH 0 r5) ((nj N x2 ((List.getD x6.1 bo.toNat cc).1)).bind fun r6=>cond (az r6 x4) (cond (small (List.length aL+List.length ([(List.getD x6.1 bo.toNat cc).1]))) (bf x2 x3 x4 x6 (aL++([(List.getD x6.1 bo.toNat cc).1])) (W .i64 (bo+1))) (none)) (bf x2 x3 x4 x6 aL (W .i64 (bo+1)))) (bf x2 x3 x4 x6 aL (W .i64 (bo+1)))) (bf x2 x3 x4 x6 aL (W .i64 (bo+1)))) (bf x2 x3 x4 x6 aL (W .i64 (bo+1)))) (none)) (some (aL,(0:Int)))
def nk.l5(N:Nat):Nat→nk.bl
 |0,_,_,_,_,_,_=>none
 |n+1,x2,x3,x4,x6,aL,bo=>nk.dq N (nk.l5 N n) x2 x3 x4 x6 aL bo
def nk.b(N:Nat)(dL:nk.bl)(a0:ae)(a1:ah)(a2:ax)(a3:Int)(a4:Int):Option ((List (Int))×(Int)):=
 (bD N a0 a1).bind fun r1=>cond (!r1) (some ([],(1:Int))) ((kV N a2).bind fun r2=>cond (!r2) (some ([],(1:Int))) (dL a2 a3 a4 a1 ([]) (0:Int)))
def nk(N:Nat)(a0:ae)(a1:ah)(a2:ax)(a3:Int)(a4:Int):Option ((List (Int))×(Int)):=nk.b N (nk.l5 N N) a0 a1 a2 a3 a4
abbrev ca.iV:=Int→ax→ax→ae→ah→bc→Int→(List (Int))→Int→Option (bc×(Int))
abbrev ca.Ak:=Int→ax→ah→bc→Int→Option (bc×(Int))
abbrev ca.oZ:=Int→ax→ae→ah→bc→Int→Option (bc×(Int))
abbrev ca.fK:=Int→ax→ax→ae→ah→bc→Int→Option (bc×(Int))
abbrev ca.JA:=Int→ax→ax→ae→ah→bc→Option (bc×(Int))
def ca.qX(N:Nat)(iq:ca.fK)(jU:ca.iV)(x2:Int)(x3:ax)(x4:ax)(x5:ae)(x6:ah)(aL:bc)(bn:Int)(bX:List (Int))(cY:Int):Option (bc×(Int)):=
 cond (aH cY (List.length bX:Int)) (cond (aJ cY (List.length bX)) ((Jo N aL x6 (W .i64 ((W .i64 ((4:Int)+bn))-1)) (6:Int) (List.getD bX cY.toNat (0:Int))).bind fun sN=>jU x2 x3 x4 x5 x6 sN bn bX (W .i64 (cY+1))) (none)) (iq x2 x3 x4 x5 x6 aL (W .i64 (bn+1)))
def ca.su(N:Nat)(iq:ca.fK):Nat→ca.iV
 |0,_,_,_,_,_,_,_,_,_=>none
 |n+1,x2,x3,x4,x5,x6,aL,bn,bX,cY=>ca.qX N iq (ca.su N iq n) x2 x3 x4 x5 x6 aL bn bX cY
def ca.FH(N:Nat)(xb:ca.Ak)(x2:Int)(x4:ax)(x6:ah)(aL:bc)(MW:Int):Option (bc×(Int)):=
 cond (aH MW (List.length x4:Int)) (cond (aJ MW (List.length x4)) ((zm N x6.2.1 ((List.getD x4 MW.toNat cc).1)).bind fun KY=>cond (aJ MW (List.length x4)) (cond (aJ MW (List.length x4)) ((qo N x6.2.2.1 (5:Int) ((List.getD x4 MW.toNat cc).1)).bind fun r32=>let v33:Int:=mn (((List.getD x4 MW.toNat cc).2).1) r32;cond (KY.2) (cond (!az KY.1.2.1 x2) (cond (aH 0 v33) (cond (small (List.length aL+List.length ([((9:Int),((5:Int),(KY.1.1,(v33,((0:Int),())))))]))) (xb x2 x4 x6 (aL++([((9:Int),((5:Int),(KY.1.1,(v33,((0:Int),())))))])) (W .i64 (MW+1))) (none)) (xb x2 x4 x6 aL (W .i64 (MW+1)))) (xb x2 x4 x6 aL (W .i64 (MW+1)))) (xb x2 x4 x6 aL (W .i64 (MW+1)))) (none)) (none)) (none)) (some (aL,(0:Int)))
def ca.IX(N:Nat):Nat→ca.Ak
 |0,_,_,_,_,_=>none
 |n+1,x2,x4,x6,aL,MW=>ca.FH N (ca.IX N n) x2 x4 x6 aL MW
def ca.Jl(N:Nat)(Qj:ca.Ak)(iZ:ca.oZ)(x2:Int)(x4:ax)(x5:ae)(x6:ah)(aL:bc)(ga:Int):Option (bc×(Int)):=
 cond (aH ga (List.length x6.1:Int)) (cond (aJ ga (List.length x6.1)) ((PO N (((List.getD x6.1 ga.toNat cc).2).1)).bind fun GA=>cond (!GA) (iZ x2 x4 x5 x6 aL (W .i64 (ga+1))) (cond (az ((List.getD x6.1 ga.toNat cc).1) x2) (iZ x2 x4 x5 x6 aL (W .i64 (ga+1))) ((gl N x5.2.2.1).bind fun Ib=>(qo N x6.2.2.1 (6:Int) ((List.getD x6.1 ga.toNat cc).1)).bind fun Ab=>(gl N Ab).bind fun Ec=>(fX N Ib Ec).bind fun Ed=>(qQ N Ed).bind fun xc=>cond (!xc.2) (some ([],(2:Int))) (cond (aH 0 xc.1) (cond (small (List.length aL+List.length ([((8:Int),((7:Int),((List.getD x6.1 ga.toNat cc).1,(xc.1,((0:Int),())))))]))) (iZ x2 x4 x5 x6 (aL++([((8:Int),((7:Int),((List.getD x6.1 ga.toNat cc).1,(xc.1,((0:Int),())))))])) (W .i64 (ga+1))) (none)) (iZ x2 x4 x5 x6 aL (W .i64 (ga+1))))))) (none)) (Qj x2 x4 x6 aL (0:Int))
def ca.DI(N:Nat):Nat→ca.oZ
 |0,_,_,_,_,_,_=>none
 |n+1,x2,x4,x5,x6,aL,ga=>ca.Jl N (ca.IX N N) (ca.DI N n) x2 x4 x5 x6 aL ga
def ca.lR(N:Nat)(Ad:ca.iV)(Qq:ca.oZ)(iq:ca.fK)(x2:Int)(x3:ax)(x4:ax)(x5:ae)(x6:ah)(aL:bc)(bn:Int):Option (bc×(Int)):=
 cond (bV bn 4) ((nk N x5 x6 x3 x2 bn).bind fun kZ=>Ad x2 x3 x4 x5 x6 aL bn kZ.1 (0:Int)) (Qq x2 x4 x5 x6 aL (0:Int))
def ca.nA(N:Nat):Nat→ca.fK
 |0,_,_,_,_,_,_,_=>none
 |n+1,x2,x3,x4,x5,x6,aL,bn=>ca.lR N (ca.su N (ca.nA N n) N) (ca.DI N N) (ca.nA N n) x2 x3 x4 x5 x6 aL bn
def ca.IE(N:Nat)(rn:ca.fK)(x2:Int)(x3:ax)(x4:ax)(x5:ae)(x6:ah)(aL:bc):Option (bc×(Int)):=
 (Jo N aL x6 (2:Int) (6:Int) x2).bind fun r8=>(Jo N r8 x6 (3:Int) (3:Int) (0:Int)).bind fun r9=>rn x2 x3 x4 x5 x6 r9 (1:Int)
def ca.j9(N:Nat)(x2:Int)(x3:ax)(x4:ax)(x5:ae)(x6:ah)(aL:bc):Option (bc×(Int)):=ca.IE N (ca.nA N N) x2 x3 x4 x5 x6 aL
def ca.b(N:Nat)(Am:ca.JA)(a0:ae)(a1:ah)(a2:Int)(a3:ax)(a4:ax):Option (bc×(Int)):=
 (bD N a0 a1).bind fun r1=>cond (!r1) (some ([],(1:Int))) ((kV N a3).bind fun r2=>cond (!r2) (some ([],(1:Int))) ((lX N a4).bind fun r3=>cond (!r3) (some ([],(1:Int))) ((uA N a1.1 a2).bind fun r4=>cond (az r4 0) (some ([],(3:Int))) ((tb N a1.2.1 a2).bind fun r5=>cond (!az r5 0) ((Jo N ([]) a1 (1:Int) (5:Int) r5).bind fun r6=>Am a2 a3 a4 a0 a1 r6) (Am a2 a3 a4 a0 a1 ([]))))))
def ca(N:Nat)(a0:ae)(a1:ah)(a2:Int)(a3:ax)(a4:ax):Option (bc×(Int)):=ca.b N (ca.j9 N) a0 a1 a2 a3 a4
def S4(N:Nat)(a0:ae)(a1:ah):Option ((Int)×(Int)):=
 (bD N a0 a1).bind fun r1=>cond (!r1) (some ((0:Int),(1:Int))) ((qo N a1.2.2.1 (2:Int) (0:Int)).bind fun r2=>cond (az r2 (-9223372036854775808)) (some ((0:Int),(2:Int))) (some ((mx (W .i64 (0-r2)) (0:Int)),(0:Int))))
abbrev nn.aW:=bc→Int→Option (Bool)
def nn.cn(N:Nat)(bt:nn.aW)(x0:bc)(x3:Int):Option (Bool):=
 cond (aH x3 (List.length x0:Int)) (cond (aJ x3 (List.length x0)) (cond (aH ((List.getD x0 x3.toNat jY).1) (1:Int)) (some false) (cond (aH 9 ((List.getD x0 x3.toNat jY).1)) (some false) ((IJ N (((List.getD x0 x3.toNat jY).2).1) ((((List.getD x0 x3.toNat jY).2).2).1)).bind fun r2=>cond (!r2) (some false) (cond (aH (((((List.getD x0 x3.toNat jY).2).2).2).1) (1:Int)) (some false) (cond (aH ((((((List.getD x0 x3.toNat jY).2).2).2).2).1) (0:Int)) (some false) (cond (aH (((((List.getD x0 x3.toNat jY).2).2).2).1) ((((((List.getD x0 x3.toNat jY).2).2).2).2).1)) (some false) (cond (aH 0 x3) (let v3:Int:=W .i64 (x3-1);cond (aJ v3 (List.length x0)) (cond (aH ((List.getD x0 x3.toNat jY).1) ((List.getD x0 v3.toNat jY).1)) (some false) (let v4:Int:=W .i64 (x3-1);cond (aJ v4 (List.length x0)) (cond (az ((List.getD x0 x3.toNat jY).1) ((List.getD x0 v4.toNat jY).1)) (let v5:Int:=W .i64 (x3-1);cond (aJ v5 (List.length x0)) (cond (!az (((List.getD x0 x3.toNat jY).2).1) (((List.getD x0 v5.toNat jY).2).1)) (some false) (let v6:Int:=W .i64 (x3-1);cond (aJ v6 (List.length x0)) (cond (bV ((((List.getD x0 x3.toNat jY).2).2).1) ((((List.getD x0 v6.toNat jY).2).2).1)) (some false) (bt x0 (W .i64 (x3+1)))) (none))) (none)) (bt x0 (W .i64 (x3+1)))) (none))) (none)) (bt x0 (W .i64 (x3+1)))))))))) (none)) (some true)
def nn.l4(N:Nat):Nat→nn.aW
 |0,_,_=>none
 |n+1,x0,x3=>nn.cn N (nn.l4 N n) x0 x3
def nn.b(N:Nat)(cW:nn.aW)(a0:bc):Option (Bool):=
 cond (aH 64 (List.length a0:Int)) (some false) (cW a0 (0:Int))
def nn(N:Nat)(a0:bc):Option (Bool):=nn.b N (nn.l4 N N) a0
abbrev cD.nw:=bc→Int→Int→Int→(List (Int))→Int→Option (bc×(Int)×(Int))
abbrev cD.Gx:=bc→Int→Int→Int→(List (Int))→Option (bc×(Int)×(Int))
abbrev cD.fC:=bc→Int→Int→Int→(List (Int))→Option (bc×(Int)×(Int))
abbrev cD.bl:=bc→Int→Int→Option (bc×(Int)×(Int))
def cD.tp(N:Nat)(bf:cD.bl)(vd:cD.nw)(x7:bc)(x8:Int)(x9:Int)(aQ:Int)(bn:List (Int))(cM:Int):Option (bc×(Int)×(Int)):=
 cond (aH cM aQ) (let Yg:Int:=W .i64 (cM-x9);cond (aJ Yg (List.length bn)) (cond (aJ cM (List.length x7)) (let Ng:Int:=W .i64 (cM-x9);cond (aJ Ng (List.length bn)) (vd (List.set x7 cM.toNat ((List.getD x7 cM.toNat jY).1,(((List.getD x7 cM.toNat jY).2).1,((((List.getD x7 cM.toNat jY).2).2).1,(((((List.getD x7 cM.toNat jY).2).2).2).1,(List.getD bn Yg.toNat (0:Int),(((((List.getD x7 cM.toNat jY).2).2).2).2).2)))))) (W .i64 (x8-(List.getD bn Ng.toNat (0:Int)))) x9 aQ bn (W .i64 (cM+1))) (none)) (none)) (none)) (bf x7 x8 aQ)
def cD.vR(N:Nat)(bf:cD.bl):Nat→cD.nw
 |0,_,_,_,_,_,_=>none
 |n+1,x7,x8,x9,aQ,bn,cM=>cD.tp N bf (cD.vR N bf n) x7 x8 x9 aQ bn cM
def cD.zW(N:Nat)(Ah:cD.nw)(bf:cD.bl)(x7:bc)(x8:Int)(x9:Int)(aQ:Int)(aI:List (Int)):Option (bc×(Int)×(Int)):=
 (lj N aI).bind fun r8=>(qQ N r8).bind fun r9=>cond (!r9.2) (some ([],(0:Int),(2:Int))) ((dA N (mn r9.1 x8) aI).bind fun kZ=>cond (!az kZ.2 0) (some ([],(0:Int),kZ.2)) (Ah x7 x8 x9 aQ kZ.1 x9))
def cD.H8(N:Nat)(bf:cD.bl)(x7:bc)(x8:Int)(x9:Int)(aQ:Int)(aI:List (Int)):Option (bc×(Int)×(Int)):=cD.zW N (cD.vR N bf N) bf x7 x8 x9 aQ aI
def cD.yj(N:Nat)(xd:cD.Gx)(bf:cD.bl)(dE:cD.fC)(x7:bc)(x8:Int)(x9:Int)(aQ:Int)(aI:List (Int)):Option (bc×(Int)×(Int)):=
 cond (aH aQ (List.length x7:Int)) (cond (aJ aQ (List.length x7)) (cond (aJ x9 (List.length x7)) (cond (az ((List.getD x7 aQ.toNat jY).1) ((List.getD x7 x9.toNat jY).1)) (cond (aJ aQ (List.length x7)) (cond (small (List.length aI+List.length ([((((List.getD x7 aQ.toNat jY).2).2).2).1]))) (dE x7 x8 x9 (W .i64 (aQ+1)) (aI++([((((List.getD x7 aQ.toNat jY).2).2).2).1]))) (none)) (none)) (xd x7 x8 x9 aQ aI)) (none)) (none)) (xd x7 x8 x9 aQ aI)
def cD.l8(N:Nat)(bf:cD.bl):Nat→cD.fC
 |0,_,_,_,_,_=>none
 |n+1,x7,x8,x9,aQ,aI=>cD.yj N (cD.H8 N bf) bf (cD.l8 N bf n) x7 x8 x9 aQ aI
def cD.dq(N:Nat)(An:cD.fC)(bf:cD.bl)(x7:bc)(x8:Int)(x9:Int):Option (bc×(Int)×(Int)):=
 cond (aH x9 (List.length x7:Int)) (An x7 x8 x9 x9 ([])) (some (x7,x8,(0:Int)))
def cD.l5(N:Nat):Nat→cD.bl
 |0,_,_,_=>none
 |n+1,x7,x8,x9=>cD.dq N (cD.l8 N (cD.l5 N n) N) (cD.l5 N n) x7 x8 x9
def cD.b(N:Nat)(dL:cD.bl)(a0:bc)(a1:Int):Option (bc×(Int)×(Int)):=
 (nn N a0).bind fun r1=>cond (!r1) (some ([],(0:Int),(1:Int))) (cond (aH a1 0) (some ([],(0:Int),(1:Int))) (cond (small (List.length xY+List.length a0)) (dL (xY++a0) a1 (0:Int)) (none)))
def cD(N:Nat)(a0:bc)(a1:Int):Option (bc×(Int)×(Int)):=cD.b N (cD.l5 N N) a0 a1
def S5(N:Nat)(a0:ae)(a1:ah):Option ((Int)×(Int)):=
 (bD N a0 a1).bind fun r1=>cond (!r1) (some ((0:Int),(1:Int))) ((qo N a1.2.2.1 (2:Int) (0:Int)).bind fun r2=>some ((mx r2 0),(0:Int)))
abbrev gT.afL:=ah→ah→cV→bk→cV→bc→Int→Int→Int→Option (ah×cV×(Int))
abbrev gT.Ap:=Int→ae→ah→ah→cV→bc→Int→bk→cV→bc→Int→Option (ah×cV×(Int))
def gT.aad(N:Nat)(x6:ah)(aQ:ah)(aI:cV)(ga:bk)(kX:cV)(Ar:bc)(x21:Int)(x23:Int)(x24:Int):Option (ah×cV×(Int)):=
 (gl N x21).bind fun vo=>(zX N (2:Int) (0:Int) x23 x24 vo).bind fun vp=>cond (small (List.length ga+List.length vp)) ((uR N x6 bp (ga++vp)).bind fun Gw=>cond (!az Gw.2 0) (some ((bK,(cL,(bp,(bp,(c4,(c9,())))))),((0:Int),((0:Int),(xY,((0:Int),())))),Gw.2)) (some (Gw.1,(kX.1,(kX.2.1,(Ar,kX.2.2.2))),(0:Int)))) (none)
def gT.j26(N:Nat)(x6:ah)(aQ:ah)(aI:cV)(ga:bk)(kX:cV)(Ar:bc)(x21:Int)(x23:Int)(x24:Int):Option (ah×cV×(Int)):=gT.aad N x6 aQ aI ga kX Ar x21 x23 x24
def gT.Dp(N:Nat)(Yj:gT.afL)(Cs:gT.Ap)(x2:Int)(x5:ae)(x6:ah)(aQ:ah)(aI:cV)(bo:bc)(cY:Int)(ga:bk)(kX:cV)(Ar:bc)(Ic:Int):Option (ah×cV×(Int)):=
 cond (aH Ic (List.length bo:Int)) (cond (aJ Ic (List.length bo)) (cond (aH 0 ((((((List.getD bo Ic.toNat jY).2).2).2).2).1)) (cond (aJ Ic (List.length bo)) (cond (small (List.length Ar+List.length ([List.getD bo Ic.toNat jY]))) (cond (aJ Ic (List.length bo)) (cond (aJ Ic (List.length bo)) (cond (aJ Ic (List.length bo)) ((gl N ((((((List.getD bo Ic.toNat jY).2).2).2).2).1)).bind fun r6=>(zX N (((List.getD bo Ic.toNat jY).2).1) ((((List.getD bo Ic.toNat jY).2).2).1) (2:Int) (0:Int) r6).bind fun r7=>cond (small (List.length ga+List.length r7)) (Cs x2 x5 x6 aQ aI bo cY (ga++r7) (kX.1,(kX.2.1,(xY,kX.2.2.2))) (Ar++([List.getD bo Ic.toNat jY])) (W .i64 (Ic+1))) (none)) (none)) (none)) (none)) (none)) (none)) (Cs x2 x5 x6 aQ aI bo cY ga kX Ar (W .i64 (Ic+1)))) (none)) ((gl N cY).bind fun kZ=>(zX N (4:Int) (0:Int) (2:Int) (0:Int) kZ).bind fun mv=>cond (small (List.length ga+List.length mv)) (let Yg:List ((Int)×((Int)×(((Bool)×((List (Int))×(Unit)))×(Unit)))):=ga++mv;(S5 N x5 x6).bind fun oz=>(tb N x6.2.1 x2).bind fun sN=>cond (!az sN 0) (Yj x6 aQ aI Yg kX Ar oz.1 (5:Int) sN) (Yj x6 aQ aI Yg kX Ar oz.1 (6:Int) x2)) (none))
def gT.D9(N:Nat):Nat→gT.Ap
 |0,_,_,_,_,_,_,_,_,_,_,_=>none
 |n+1,x2,x5,x6,aQ,aI,bo,cY,ga,kX,Ar,Ic=>gT.Dp N (gT.j26 N) (gT.D9 N n) x2 x5 x6 aQ aI bo cY ga kX Ar Ic
def gT.b(N:Nat)(Qn:gT.Ap)(a0:ae)(a1:ah)(a2:Int)(a3:ax)(a4:ax):Option (ah×cV×(Int)):=
 (ca N a0 a1 a2 a3 a4).bind fun r1=>cond (az r1.2 1) (some ((bK,(cL,(bp,(bp,(c4,(c9,())))))),((0:Int),((0:Int),(xY,((0:Int),())))),r1.2)) (cond (az r1.2 3) (some ((bK,(cL,(bp,(bp,(c4,(c9,())))))),((0:Int),((0:Int),(xY,((0:Int),())))),r1.2)) ((S4 N a0 a1).bind fun r2=>cond (!az r2.2 0) (some ((bK,(cL,(bp,(bp,(c4,(c9,())))))),((0:Int),((0:Int),(xY,((0:Int),())))),r2.2)) (cond (!az r1.2 0) (some ((bK,(cL,(bp,(bp,(c4,(c9,())))))),((0:Int),((0:Int),(xY,((0:Int),())))),r1.2)) ((cD N r1.1 r2.1).bind fun r3=>cond (!az r3.2.2 0) (some ((bK,(cL,(bp,(bp,(c4,(c9,())))))),((0:Int),((0:Int),(xY,((0:Int),())))),r3.2.2)) (Qn a2 a0 a1 (bK,(cL,(bp,(bp,(c4,(c9,())))))) ((0:Int),((0:Int),(xY,((0:Int),())))) r3.1 r3.2.1 ([]) (a2,(r2.1,(xY,(r3.2.1,())))) xY (0:Int))))))
def gT(N:Nat)(a0:ae)(a1:ah)(a2:Int)(a3:ax)(a4:ax):Option (ah×cV×(Int)):=gT.b N (gT.D9 N N) a0 a1 a2 a3 a4
abbrev c6.Aj:=(List (Int))→(List (Int))→(List (Int))→Int→Int→(List (Int))→Int→Option ((List (Int))×(Int)×(Int))
abbrev c6.fK:=(List (Int))→(List (Int))→(List (Int))→Int→Int→(List (Int))→Bool→Int→Option ((List (Int))×(Int)×(Int))
abbrev c6.fC:=(List (Int))→(List (Int))→(List (Int))→Int→Int→Option ((List (Int))×(Int)×(Int))
def c6.IY(N:Nat)(dE:c6.fC)(Qi:c6.Aj)(x1:List (Int))(x2:List (Int))(aI:List (Int))(aL:Int)(bo:Int)(cY:List (Int))(kX:Int):Option ((List (Int))×(Int)×(Int)):=
 cond (aH kX (List.length x1:Int)) (cond (aJ kX (List.length cY)) (cond (aJ kX (List.length x2)) (cond (aJ kX (List.length aI)) (let Ql:Int:=mn (List.getD cY kX.toNat (0:Int)) (W .i64 ((List.getD x2 kX.toNat (0:Int))-(List.getD aI kX.toNat (0:Int))));cond (aJ kX (List.length aI)) (cond (aJ kX (List.length aI)) (Qi x1 x2 (List.set aI kX.toNat (W .i64 ((List.getD aI kX.toNat (0:Int))+Ql))) (W .i64 (aL-Ql)) bo cY (W .i64 (kX+1))) (none)) (none)) (none)) (none)) (none)) (dE x1 x2 aI aL (W .i64 (bo+1)))
def c6.Md(N:Nat)(dE:c6.fC):Nat→c6.Aj
 |0,_,_,_,_,_,_,_=>none
 |n+1,x1,x2,aI,aL,bo,cY,kX=>c6.IY N dE (c6.Md N dE n) x1 x2 aI aL bo cY kX
def c6.lR(N:Nat)(Qk:c6.Aj)(dE:c6.fC)(iq:c6.fK)(x1:List (Int))(x2:List (Int))(aI:List (Int))(aL:Int)(bo:Int)(bn:List (Int))(bX:Bool)(cM:Int):Option ((List (Int))×(Int)×(Int)):=
 cond (aH cM (List.length x1:Int)) (cond (aJ cM (List.length x1)) (cond (aH 0 (List.getD x1 cM.toNat (0:Int))) (cond (aJ cM (List.length aI)) (cond (aJ cM (List.length x2)) (cond (aH (List.getD aI cM.toNat (0:Int)) (List.getD x2 cM.toNat (0:Int))) (cond (aJ cM (List.length x1)) (cond (aJ cM (List.length bn)) (iq x1 x2 aI aL bo (List.set bn cM.toNat (List.getD x1 cM.toNat (0:Int))) true (W .i64 (cM+1))) (none)) (none)) (iq x1 x2 aI aL bo bn bX (W .i64 (cM+1)))) (none)) (none)) (iq x1 x2 aI aL bo bn bX (W .i64 (cM+1)))) (none)) (cond (az aL 0) (some (aI,aL,(0:Int))) (cond (!bX) (some (aI,aL,(0:Int))) ((dA N aL bn).bind fun nK=>Qk x1 x2 aI aL bo nK.1 (0:Int))))
def c6.nA(N:Nat)(dE:c6.fC):Nat→c6.fK
 |0,_,_,_,_,_,_,_,_=>none
 |n+1,x1,x2,aI,aL,bo,bn,bX,cM=>c6.lR N (c6.Md N dE N) dE (c6.nA N dE n) x1 x2 aI aL bo bn bX cM
def c6.yj(N:Nat)(rn:c6.fK)(dE:c6.fC)(x1:List (Int))(x2:List (Int))(aI:List (Int))(aL:Int)(bo:Int):Option ((List (Int))×(Int)×(Int)):=
 cond (bV bo (List.length x1:Int)) (cond (dZ (List.length x1:Int) (List.length x1:Int)) (rn x1 x2 aI aL bo (List.replicate (List.length x1:Int).toNat (0:Int)) false (0:Int)) (none)) (some (aI,aL,(0:Int)))
def c6.l8(N:Nat):Nat→c6.fC
 |0,_,_,_,_,_=>none
 |n+1,x1,x2,aI,aL,bo=>c6.yj N (c6.nA N (c6.l8 N n) N) (c6.l8 N n) x1 x2 aI aL bo
def c6.b(N:Nat)(An:c6.fC)(a0:Int)(a1:List (Int))(a2:List (Int)):Option ((List (Int))×(Int)×(Int)):=
 (lC N a0 a1).bind fun r1=>cond (r1) (some ([],(0:Int),(1:Int))) (cond (!az (List.length a2:Int) (List.length a1:Int)) (some ([],(0:Int),(1:Int))) ((lC N (0:Int) a2).bind fun r2=>cond (r2) (some ([],(0:Int),(1:Int))) ((lj N a1).bind fun r3=>(qQ N r3).bind fun r4=>cond (!r4.2) (some ([],(0:Int),(2:Int))) (cond (dZ (List.length a1:Int) (List.length a1:Int)) (An a1 a2 (List.replicate (List.length a1:Int).toNat (0:Int)) a0 (0:Int)) (none)))))
def c6(N:Nat)(a0:Int)(a1:List (Int))(a2:List (Int)):Option ((List (Int))×(Int)×(Int)):=c6.b N (c6.l8 N N) a0 a1 a2
abbrev jT.rl:=Int→Int→(List (Int))→(List (Int))→aj→Int→Option (aj×(Int))
abbrev jT.ny:=Int→ah→Int→(List (Int))→(List (Int))→Int→Option (aj×(Int))
def jT.uX(N:Nat)(rm:jT.rl)(x2:Int)(x8:Int)(x9:List (Int))(bo:List (Int))(cM:aj)(cY:Int):Option (aj×(Int)):=
 cond (aH cY (List.length bo:Int)) (cond (aJ cY (List.length bo)) (cond (aH x8 0) (let Q0:Int:=W .i64 (0-(List.getD bo cY.toNat (0:Int)));cond (!az Q0 0) (cond (aJ cY (List.length x9)) (cond (small (List.length cM+List.length ([(List.getD x9 cY.toNat (0:Int),(x2,(Q0,())))]))) (rm x2 x8 x9 bo (cM++([(List.getD x9 cY.toNat (0:Int),(x2,(Q0,())))])) (W .i64 (cY+1))) (none)) (none)) (rm x2 x8 x9 bo cM (W .i64 (cY+1)))) (cond (!az (List.getD bo cY.toNat (0:Int)) (0:Int)) (cond (aJ cY (List.length x9)) (cond (small (List.length cM+List.length ([(List.getD x9 cY.toNat (0:Int),(x2,(List.getD bo cY.toNat (0:Int),())))]))) (rm x2 x8 x9 bo (cM++([(List.getD x9 cY.toNat (0:Int),(x2,(List.getD bo cY.toNat (0:Int),())))])) (W .i64 (cY+1))) (none)) (none)) (rm x2 x8 x9 bo cM (W .i64 (cY+1))))) (none)) (some (cM,(0:Int)))
def jT.ti(N:Nat):Nat→jT.rl
 |0,_,_,_,_,_,_=>none
 |n+1,x2,x8,x9,bo,cM,cY=>jT.uX N (jT.ti N n) x2 x8 x9 bo cM cY
def jT.qj(N:Nat)(Gt:jT.rl)(ob:jT.ny)(x2:Int)(x4:ah)(x8:Int)(x9:List (Int))(aQ:List (Int))(aI:Int):Option (aj×(Int)):=
 cond (aH aI (List.length x4.2.2.2.1:Int)) (cond (aJ aI (List.length x4.2.2.2.1)) (cond (!az ((List.getD x4.2.2.2.1 aI.toNat aS).1) (0:Int)) (cond (az (((List.getD x4.2.2.2.1 aI.toNat aS).2).1) x2) (cond (!(la .bool (aH 0 ((((List.getD x4.2.2.2.1 aI.toNat aS).2).2).1)) (aH 0 x8))) (cond (small (List.length x9+List.length ([(List.getD x4.2.2.2.1 aI.toNat aS).1]))) (let v6:Int:=mx ((((List.getD x4.2.2.2.1 aI.toNat aS).2).2).1) (W .i64 (0-((((List.getD x4.2.2.2.1 aI.toNat aS).2).2).1)));cond (small (List.length aQ+List.length ([v6]))) (ob x2 x4 x8 (x9++([(List.getD x4.2.2.2.1 aI.toNat aS).1])) (aQ++([v6])) (W .i64 (aI+1))) (none)) (none)) (ob x2 x4 x8 x9 aQ (W .i64 (aI+1)))) (ob x2 x4 x8 x9 aQ (W .i64 (aI+1)))) (ob x2 x4 x8 x9 aQ (W .i64 (aI+1)))) (none)) ((c6 N (mx x8 (W .i64 (0-x8))) aQ aQ).bind fun oz=>cond (!az oz.2.2 0) (some ([],oz.2.2)) (Gt x2 x8 x9 oz.1 ([((0:Int),(x2,((W .i64 (0-x8)),())))]) (0:Int)))
def jT.tt(N:Nat):Nat→jT.ny
 |0,_,_,_,_,_,_=>none
 |n+1,x2,x4,x8,x9,aQ,aI=>jT.qj N (jT.ti N N) (jT.tt N n) x2 x4 x8 x9 aQ aI
def jT.b(N:Nat)(Ai:jT.ny)(a0:ae)(a1:ah)(a2:Int):Option (aj×(Int)):=
 (bD N a0 a1).bind fun r1=>cond (!r1) (some ([],(1:Int))) (cond (aH a2 0) (some ([],(3:Int))) (cond (bV (List.length a0.1:Int) a2) (some ([],(3:Int))) ((wY N a1.2.2.2.1 (0:Int) a2).bind fun r2=>cond (az r2 0) (some ([],(0:Int))) (Ai a2 a1 r2 ([]) ([]) (0:Int)))))
def jT(N:Nat)(a0:ae)(a1:ah)(a2:Int):Option (aj×(Int)):=jT.b N (jT.tt N N) a0 a1 a2
abbrev tE.bl:=ae→ah→ah→aj→Int→Option (ah×(Int))
def tE.dq(N:Nat)(bf:tE.bl)(x2:ae)(x3:ah)(x4:ah)(x6:aj)(x7:Int):Option (ah×(Int)):=
 cond (aH x7 (List.length x2.1:Int)) ((jT N x2 x3 x7).bind fun r3=>cond (!az r3.2 0) (some ((bK,(cL,(bp,(bp,(c4,(c9,())))))),r3.2)) (cond (small (List.length x6+List.length r3.1)) (bf x2 x3 x4 (x6++r3.1) (W .i64 (x7+1))) (none))) ((uR N x3 x6 ([]:List ((Int)×((Int)×(((Bool)×((List (Int))×(Unit)))×(Unit)))))).bind fun r6=>some (r6.1,r6.2))
def tE.l5(N:Nat):Nat→tE.bl
 |0,_,_,_,_,_=>none
 |n+1,x2,x3,x4,x6,x7=>tE.dq N (tE.l5 N n) x2 x3 x4 x6 x7
def tE.b(N:Nat)(dL:tE.bl)(a0:ae)(a1:ah):Option (ah×(Int)):=
 (bD N a0 a1).bind fun r1=>cond (!r1) (some ((bK,(cL,(bp,(bp,(c4,(c9,())))))),(1:Int))) (dL a0 a1 (bK,(cL,(bp,(bp,(c4,(c9,())))))) ([]) (0:Int))
def tE(N:Nat)(a0:ae)(a1:ah):Option (ah×(Int)):=tE.b N (tE.l5 N N) a0 a1
abbrev nq.Qr:=aO→aO→cy→aX→Int→Int→Option (aO×cy)
def nq.aae(N:Nat)(Yk:nq.Qr)(x4:aO)(x6:aO)(x7:cy)(bn:aX)(cM:Int)(cY:Int):Option (aO×cy):=
 cond (aH cY (List.length bn:Int)) (cond (aJ cY (List.length bn)) (cond (az (((((List.getD bn cY.toNat ((0:Int),(bK,aN))).2).2).2).1) (2:Int)) (Yk x4 x6 x7 bn (W .i64 (cM+1)) (W .i64 (cY+1))) (Yk x4 x6 x7 bn cM (W .i64 (cY+1)))) (none)) (some (x4,((0:Int),(cM,((0:Int),())))))
def nq.l41(N:Nat):Nat→nq.Qr
 |0,_,_,_,_,_,_=>none
 |n+1,x4,x6,x7,bn,cM,cY=>nq.aae N (nq.l41 N n) x4 x6 x7 bn cM cY
def nq.b(N:Nat)(afM:nq.Qr)(a0:ae)(a1:aO)(a2:fA):Option (aO×cy):=
 cond (az a2.1 14) ((SY N a0 a1.2.2.1 a1.2.2.2.1.1 a2.2.1 a2.2.2.1).bind fun r1=>(dS N r1.2).bind fun r2=>some ((a1.1,(a1.2.1,(r1.1,a1.2.2.2))),r2)) (cond (az a2.1 15) ((fJ N a0 a1.2.2.1 a1.2.2.2.1.1).bind fun r3=>(dS N r3.2).bind fun r4=>some ((a1.1,(a1.2.1,(r3.1,((a1.2.2.2.1.1,((2:Int),((0:Int),a1.2.2.2.1.2.2.2))),a1.2.2.2.2)))),r4)) (cond (az a2.1 16) ((pN N a0 a1.2.2.1 a1.2.1).bind fun r5=>some ((a1.1,((W .i64 (a1.2.1+(List.length r5.1:Int))),(a1.2.2.1,((a1.2.2.2.1.1,(a1.2.2.2.1.2.1,(a1.2.2.2.1.2.2.1,(a1.2.2.2.1.2.2.2.1,(r5.1,a1.2.2.2.1.2.2.2.2.2))))),a1.2.2.2.2)))),(r5.2,((List.length r5.1:Int),((0:Int),()))))) (cond (az a2.1 17) ((np N a0 a1 a2).bind fun r7=>some (r7.1,r7.2)) (cond (az a2.1 18) (cond (az a1.2.2.2.1.2.2.2.1 3) ((dS N (5:Int)).bind fun r8=>some (a1,r8)) ((cT N a0 a1.2.2.1 a1.2.1).bind fun r9=>cond (!az r9.2 0) ((dS N r9.2).bind fun jK=>some (a1,jK)) ((ML N a1 a0.2.2.2.2.1).bind fun kZ=>cond (!kZ.2) ((dS N (2:Int)).bind fun mv=>some (a1,mv)) ((nh N a0 a1.2.2.1).bind fun oz=>some ((a1.1,((W .i64 (a1.2.1+(List.length r9.1:Int))),(a1.2.2.1,((a1.2.2.2.1.1,((3:Int),(kZ.1,((W .i64 (a1.2.2.2.1.2.2.2.1+1)),(cL,(r9.1,(cL,(oz.1,a1.2.2.2.1.2.2.2.2.2.2.2.2)))))))),a1.2.2.2.2)))),((0:Int),((List.length r9.1:Int),((0:Int),())))))))) (cond (az a2.1 19) ((S2 N a0 a1.2.2.1 a1.2.2.2.1.2.2.2.2.2.1 a1.2.2.2.1.2.2.2.2.2.2.1 (a1.2.1,(a2.2.2.2.2.2.1,(a2.2.1,(a2.2.2.2.2.2.2.2.1,()))))).bind fun wc=>let Q0:Int:=W .i64 (a1.2.1+1);some ((a1.1,(Q0,(a1.2.2.1,((a1.2.2.2.1.1,(a1.2.2.2.1.2.1,(a1.2.2.2.1.2.2.1,(a1.2.2.2.1.2.2.2.1,(a1.2.2.2.1.2.2.2.2.1,(a1.2.2.2.1.2.2.2.2.2.1,(wc.1,a1.2.2.2.1.2.2.2.2.2.2.2))))))),a1.2.2.2.2)))),(wc.2,((W .i64 (Q0-1)),((0:Int),()))))) (cond (az a2.1 20) ((ot N a0 a1.2.2.1 a1.2.2.2.1.2.2.2.2.2.1 a1.2.2.2.1.2.2.2.2.2.2.1).bind fun GA=>cond (!az GA.2.2 0) ((dS N GA.2.2).bind fun Gw=>some (a1,Gw)) ((cr N a0 a1.2.2.2.1.2.2.2.2.2.2.2.2.1 a1.2.2.2.1.2.2.2.2.2.2.2.1 GA.2.1 a1.2.2.2.1.2.2.2.2.2.2.1).bind fun H9=>afM (a1.1,(a1.2.1,(GA.1,((a1.2.2.2.1.1,((2:Int),((0:Int),(a1.2.2.2.1.2.2.2.1,(a1.2.2.2.1.2.2.2.2.1,(GA.2.1,(a1.2.2.2.1.2.2.2.2.2.2.1,(a1.2.2.2.1.2.2.2.2.2.2.2.1,(H9.1,a1.2.2.2.1.2.2.2.2.2.2.2.2.2))))))))),a1.2.2.2.2)))) ((0:Int),((0:Int),((bK,(cL,(bp,(bp,(c4,(c9,())))))),(((0:Int),((0:Int),((0:Int),((0:Int),(cL,(([]:List ((Int)×((List ((Int)×((Int)×(Unit))))×((Int)×((Int)×((Int)×((Int)×(Unit)))))))),(cL,(c4,(bK,(bK,())))))))))),(((0:Int),((0:Int),(xY,((0:Int),())))),()))))) aS GA.2.1 (0:Int) (0:Int))) (cond (az a2.1 21) ((gT N a0 a1.2.2.1 a1.2.2.2.1.1 a1.2.2.2.1.2.2.2.2.2.2.2.2.1 a1.2.2.2.1.2.2.2.2.2.2.2.2.2.1).bind fun xc=>cond (!az xc.2.2 0) ((dS N xc.2.2).bind fun MV=>some (a1,MV)) ((tE N a0 xc.1).bind fun Yd=>cond (!az Yd.2 0) ((dS N Yd.2).bind fun Cq=>some (a1,Cq)) ((kU N Yd.1.1 a1.2.2.2.1.1 a2.1).bind fun Jz=>some ((a1.1,(a1.2.1,((Jz.1,Yd.1.2),(((0:Int),((0:Int),((0:Int),((0:Int),(cL,(([]:List ((Int)×((List ((Int)×((Int)×(Unit))))×((Int)×((Int)×((Int)×((Int)×(Unit)))))))),(cL,(c4,(bK,(bK,())))))))))),(xc.2.1,a1.2.2.2.2.2))))),(Jz.2,((0:Int),(xc.2.1.2.1,()))))))) ((dS N (0:Int)).bind fun KY=>some (a1,KY)))))))))
def nq(N:Nat)(a0:ae)(a1:aO)(a2:fA):Option (aO×cy):=nq.b N (nq.l41 N N) a0 a1 a2
abbrev pR.Qp:=ae→aO→fA→aO→cy→Option (aO×cy)
def pR.Jm(N:Nat)(x3:ae)(x4:aO)(x5:fA)(x6:aO)(x7:cy):Option (aO×cy):=
 (Tc N x4 x5.1).bind fun MV=>cond (!MV) ((dS N (6:Int)).bind fun Yd=>some (x4,Yd)) ((nq N x3 x4 x5).bind fun Cq=>some (Cq.1,Cq.2))
def pR.PJ(N:Nat)(x3:ae)(x4:aO)(x5:fA)(x6:aO)(x7:cy):Option (aO×cy):=pR.Jm N x3 x4 x5 x6 x7
def pR.b(N:Nat)(GB:pR.Qp)(a0:ae)(a1:aO)(a2:fA):Option (aO×cy):=
 cond (az a2.1 11) ((kU N a1.2.2.1.1 a2.2.1 a2.1).bind fun r1=>cond (az r1.2 0) (cond (az a2.1 11) ((Mw N a0 (r1.1,a1.2.2.1.2) a2.2.1).bind fun r2=>cond (az a1.2.2.2.1.2.1 3) ((lD N a1.2.2.2.1.2.2.2.2.2.2.1 a2.2.1).bind fun r3=>(dS N r1.2).bind fun r4=>some ((a1.1,(a1.2.1,(r2.1,((a1.2.2.2.1.1,(a1.2.2.2.1.2.1,(a1.2.2.2.1.2.2.1,(a1.2.2.2.1.2.2.2.1,(a1.2.2.2.1.2.2.2.2.1,(a1.2.2.2.1.2.2.2.2.2.1,(r3,a1.2.2.2.1.2.2.2.2.2.2.2))))))),a1.2.2.2.2)))),r4)) ((dS N r1.2).bind fun r5=>some ((a1.1,(a1.2.1,(r2.1,a1.2.2.2))),r5))) ((dS N r1.2).bind fun r6=>some ((a1.1,(a1.2.1,((r1.1,a1.2.2.1.2),a1.2.2.2))),r6))) ((dS N r1.2).bind fun r7=>some ((a1.1,(a1.2.1,((r1.1,a1.2.2.1.2),a1.2.2.2))),r7))) (cond (az a2.1 12) ((kU N a1.2.2.1.1 a2.2.1 a2.1).bind fun r8=>cond (az r8.2 0) (cond (az a2.1 11) ((Mw N a0 (r8.1,a1.2.2.1.2) a2.2.1).bind fun r9=>cond (az a1.2.2.2.1.2.1 3) ((lD N a1.2.2.2.1.2.2.2.2.2.2.1 a2.2.1).bind fun jK=>(dS N r8.2).bind fun kZ=>some ((a1.1,(a1.2.1,(r9.1,((a1.2.2.2.1.1,(a1.2.2.2.1.2.1,(a1.2.2.2.1.2.2.1,(a1.2.2.2.1.2.2.2.1,(a1.2.2.2.1.2.2.2.2.1,(a1.2.2.2.1.2.2.2.2.2.1,(jK,a1.2.2.2.1.2.2.2.2.2.2.2))))))),a1.2.2.2.2)))),kZ)) ((dS N r8.2).bind fun mv=>some ((a1.1,(a1.2.1,(r9.1,a1.2.2.2))),mv))) ((dS N r8.2).bind fun nK=>some ((a1.1,(a1.2.1,((r8.1,a1.2.2.1.2),a1.2.2.2))),nK))) ((dS N r8.2).bind fun oz=>some ((a1.1,(a1.2.1,((r8.1,a1.2.2.1.2),a1.2.2.2))),oz))) (cond (az a2.1 13) ((DL N a1 a2.2.1).bind fun sN=>cond (az sN 0) ((dS N (3:Int)).bind fun wc=>some (a1,wc)) (cond (!az a1.2.2.2.1.2.1 0) ((dS N (6:Int)).bind fun vo=>some (a1,vo)) ((kU N a1.2.2.1.1 a2.2.1 a2.1).bind fun vp=>cond (!az vp.2 0) ((dS N vp.2).bind fun GA=>some ((a1.1,(a1.2.1,((vp.1,a1.2.2.1.2),a1.2.2.2))),GA)) ((ML N (a1.1,(a1.2.1,((vp.1,a1.2.2.1.2),a1.2.2.2))) a0.2.2.2.1).bind fun Gw=>cond (!Gw.2) ((dS N (2:Int)).bind fun H9=>some ((a1.1,(a1.2.1,((vp.1,a1.2.2.1.2),a1.2.2.2))),H9)) (some ((a1.1,(a1.2.1,((vp.1,a1.2.2.1.2),((a2.2.1,((1:Int),(Gw.1,((0:Int),(cL,(([]:List ((Int)×((List ((Int)×((Int)×(Unit))))×((Int)×((Int)×((Int)×((Int)×(Unit)))))))),(cL,(c4,(bK,(bK,())))))))))),a1.2.2.2.2)))),aS)))))) (cond (az a2.1 19) ((DL N a1 a2.2.1).bind fun Ib=>cond (az Ib 0) ((dS N (3:Int)).bind fun Ab=>some (a1,Ab)) ((DL N a1 a2.2.1).bind fun Ec=>cond (!az Ec 1) ((dS N (7:Int)).bind fun Ed=>some (a1,Ed)) (GB a0 a1 a2 ((0:Int),((0:Int),((bK,(cL,(bp,(bp,(c4,(c9,())))))),(((0:Int),((0:Int),((0:Int),((0:Int),(cL,(([]:List ((Int)×((List ((Int)×((Int)×(Unit))))×((Int)×((Int)×((Int)×((Int)×(Unit)))))))),(cL,(c4,(bK,(bK,())))))))))),(((0:Int),((0:Int),(xY,((0:Int),())))),()))))) aS))) (GB a0 a1 a2 ((0:Int),((0:Int),((bK,(cL,(bp,(bp,(c4,(c9,())))))),(((0:Int),((0:Int),((0:Int),((0:Int),(cL,(([]:List ((Int)×((List ((Int)×((Int)×(Unit))))×((Int)×((Int)×((Int)×((Int)×(Unit)))))))),(cL,(c4,(bK,(bK,())))))))))),(((0:Int),((0:Int),(xY,((0:Int),())))),()))))) aS))))
def pR(N:Nat)(a0:ae)(a1:aO)(a2:fA):Option (aO×cy):=pR.b N (pR.PJ N) a0 a1 a2
def Tf(N:Nat)(a0:ae)(a1:aO)(a2:fA):Option (aO×cy):=
 cond (az a2.1 1) ((gR N a1.2.2.1.1 a2.2.1).bind fun r1=>(dS N r1.2).bind fun r2=>some ((a1.1,(a1.2.1,((r1.1,a1.2.2.1.2),a1.2.2.2))),r2)) (cond (az a2.1 2) ((eA N a1.2.2.1.1 a1.2.2.1.2.1 (a2.2.2.1,(a2.2.1,(a2.2.2.2.2.1,((0:Int),()))))).bind fun r3=>(dS N r3.2).bind fun r4=>some ((a1.1,(a1.2.1,((a1.2.2.1.1,(r3.1,a1.2.2.1.2.2)),a1.2.2.2))),r4)) (cond (az a2.1 3) ((PZ N a1 a2.2.2.1).bind fun r5=>cond (!r5) ((dS N (3:Int)).bind fun r6=>some (a1,r6)) ((MM N a1 (1:Int) (0:Int) (5:Int) a2.2.2.1 a2.2.2.2.2.2.2.1).bind fun r7=>some (r7.1,r7.2))) (cond (az a2.1 4) ((SW N a0 a1.2.2.1 a2.2.2.1 a2.2.2.2.2.2.2.1).bind fun r8=>(dS N r8.2).bind fun r9=>some ((a1.1,(a1.2.1,(r8.1,a1.2.2.2))),r9)) (cond (az a2.1 5) ((DL N a1 a2.2.1).bind fun jK=>cond (az jK 0) ((dS N (3:Int)).bind fun kZ=>some (a1,kZ)) ((DL N a1 a2.2.1).bind fun mv=>cond (!az mv 1) ((dS N (7:Int)).bind fun nK=>some (a1,nK)) ((MM N a1 (1:Int) (0:Int) (6:Int) a2.2.1 a2.2.2.2.2.2.2.1).bind fun oz=>some (oz.1,oz.2)))) (cond (az a2.1 22) ((DL N a1 a2.2.1).bind fun sN=>cond (az sN 0) ((dS N (3:Int)).bind fun wc=>some (a1,wc)) ((qo N a1.2.2.1.2.2.1 (7:Int) a2.2.1).bind fun vo=>(gl N vo).bind fun vp=>(Nd N vp).bind fun GA=>(gl N a2.2.2.2.2.2.2.1).bind fun Gw=>(H5 N Gw GA).bind fun H9=>cond (aH 0 H9) ((dS N (9:Int)).bind fun Ib=>some (a1,Ib)) ((MM N a1 (1:Int) (0:Int) (7:Int) a2.2.1 a2.2.2.2.2.2.2.1).bind fun Ab=>some (Ab.1,Ab.2)))) (cond (az a2.1 6) ((m7 N a1.2.2.1.2.1 a2.2.2.1 a2.2.2.2.2.2.2.1).bind fun Ec=>(dS N Ec.2).bind fun Ed=>some ((a1.1,(a1.2.1,((a1.2.2.1.1,(Ec.1,a1.2.2.1.2.2)),a1.2.2.2))),Ed)) (cond (az a2.1 7) ((jg N a0 a1.2.2.1 (a1.2.1,(a2.2.2.1,(a2.2.2.2.1,(a2.2.2.2.2.1,(a2.2.2.2.2.2.2.1,(a2.2.2.2.2.2.2.2.1,()))))))).bind fun xc=>let v27:Int:=W .i64 (a1.2.1+1);some ((a1.1,(v27,(xc.1,a1.2.2.2))),(xc.2.2.2,((W .i64 (v27-1)),((W .i64 (a2.2.2.2.2.2.2.1-xc.2.2.1)),()))))) (cond (az a2.1 8) ((PZ N a1 a2.2.2.1).bind fun Jz=>cond (!Jz) ((dS N (3:Int)).bind fun KY=>some (a1,KY)) ((nc N a1.2.2.1.2.2.2.2.2.1 a2.2.2.1 a2.2.2.2.2.2.1).bind fun r32=>(dS N r32.2).bind fun r33=>some ((a1.1,(a1.2.1,((a1.2.2.1.1,(a1.2.2.1.2.1,(a1.2.2.1.2.2.1,(a1.2.2.1.2.2.2.1,(a1.2.2.1.2.2.2.2.1,(r32.1,a1.2.2.1.2.2.2.2.2.2)))))),a1.2.2.2))),r33))) (cond (az a2.1 9) ((SV N a0 a1.2.2.1 a2.2.2.2.1 a2.2.2.2.2.2.2.2.1).bind fun Qh=>cond (az Qh.2.2 0) (cond (!az a1.2.2.2.1.2.1 0) ((c7 N a1.2.2.2.1.2.2.2.2.2.2.2.2.2.1 Qh.2.1).bind fun r35=>(dS N r35.2).bind fun r36=>some ((a1.1,(a1.2.1,(Qh.1,((a1.2.2.2.1.1,(a1.2.2.2.1.2.1,(a1.2.2.2.1.2.2.1,(a1.2.2.2.1.2.2.2.1,(a1.2.2.2.1.2.2.2.2.1,(a1.2.2.2.1.2.2.2.2.2.1,(a1.2.2.2.1.2.2.2.2.2.2.1,(a1.2.2.2.1.2.2.2.2.2.2.2.1,(a1.2.2.2.1.2.2.2.2.2.2.2.2.1,(r35.1,a1.2.2.2.1.2.2.2.2.2.2.2.2.2.2)))))))))),a1.2.2.2.2)))),r36)) ((dS N Qh.2.2).bind fun r37=>some ((a1.1,(a1.2.1,(Qh.1,a1.2.2.2))),r37))) ((dS N Qh.2.2).bind fun r38=>some ((a1.1,(a1.2.1,(Qh.1,a1.2.2.2))),r38))) (cond (az a2.1 10) ((ML N a1 a2.2.2.2.2.2.2.1).bind fun r39=>cond (!r39.2) ((dS N (2:Int)).bind fun r40=>some (a1,r40)) (some ((r39.1,a1.2),aS))) ((pR N a0 a1 a2).bind fun r41=>some (r41.1,r41.2))))))))))))
def Th(N:Nat)(a0:ae)(a1:aO)(a2:fA):Option (aO×cy):=
 (iH N a0).bind fun r1=>cond (!r1) (some (a1,((1:Int),cc))) ((m6 N a2).bind fun r2=>cond (!r2) (some (a1,((1:Int),cc))) ((Tf N a0 a1 a2).bind fun r3=>cond (!az r3.2.1 0) (some (a1,(r3.2.1,cc))) (some (r3.1,r3.2))))
abbrev z6.fg:=fO→ae→aO→aO→aj→Int→Option (aO×aj)
def z6.ow(N:Nat)(fP:z6.fg)(x1:fO)(x2:ae)(x4:aO)(x6:aO)(x8:aj)(x9:Int):Option (aO×aj):=
 cond (aH x9 (List.length x1:Int)) (cond (aJ x9 (List.length x1)) ((Th N x2 x6 (List.getD x1 x9.toNat zz8)).bind fun r3=>cond (small (List.length x8+List.length ([r3.2]))) (fP x1 x2 x4 r3.1 (x8++([r3.2])) (W .i64 (x9+1))) (none)) (none)) (some (x6,x8))
def z6.l6(N:Nat):Nat→z6.fg
 |0,_,_,_,_,_,_=>none
 |n+1,x1,x2,x4,x6,x8,x9=>z6.ow N (z6.l6 N n) x1 x2 x4 x6 x8 x9
def z6.b(N:Nat)(pU:z6.fg)(a0:ae)(a1:fO):Option (aO×aj):=
 (aag N a0).bind fun r1=>cond (!az r1.2 0) (some (((0:Int),((0:Int),((bK,(cL,(bp,(bp,(c4,(c9,())))))),(((0:Int),((0:Int),((0:Int),((0:Int),(cL,(([]:List ((Int)×((List ((Int)×((Int)×(Unit))))×((Int)×((Int)×((Int)×((Int)×(Unit)))))))),(cL,(c4,(bK,(bK,())))))))))),(((0:Int),((0:Int),(xY,((0:Int),())))),()))))),[])) (pU a1 a0 ((0:Int),((0:Int),((bK,(cL,(bp,(bp,(c4,(c9,())))))),(((0:Int),((0:Int),((0:Int),((0:Int),(cL,(([]:List ((Int)×((List ((Int)×((Int)×(Unit))))×((Int)×((Int)×((Int)×((Int)×(Unit)))))))),(cL,(c4,(bK,(bK,())))))))))),(((0:Int),((0:Int),(xY,((0:Int),())))),()))))) r1.1 ([]) (0:Int))
def z6(N:Nat)(a0:ae)(a1:fO):Option (aO×aj):=z6.b N (z6.l6 N N) a0 a1
def F28(N:Nat)(a0:aM)(a1:ae)(a2:Int):Option (aO×aM):=
 (yu N a0 a1 a2).bind fun r1=>(oq N r1.2 (2:Int)).bind fun r2=>let v3:Int:=W .i64 ((1:Int)+r2.1);cond (small (List.length r1.1+List.length ([((11:Int),(v3,eB)),((13:Int),(v3,eB))]))) (let v4:List ((Int)×((Int)×((Int)×((Int)×((Int)×((Int)×((Int)×((Int)×(Unit))))))))):=r1.1++([((11:Int),(v3,eB)),((13:Int),(v3,eB))]);(xN N r2.2 a1).bind fun r5=>cond (small (List.length v4+List.length r5.1)) (let v6:List ((Int)×((Int)×((Int)×((Int)×((Int)×((Int)×((Int)×((Int)×(Unit))))))))):=v4++r5.1;cond (small (List.length v6+List.length ([((10:Int),((0:Int),((0:Int),((0:Int),((0:Int),((0:Int),((2:Int),((0:Int),())))))))),((15:Int),XF)]))) (let v7:List ((Int)×((Int)×((Int)×((Int)×((Int)×((Int)×((Int)×((Int)×(Unit))))))))):=v6++([((10:Int),((0:Int),((0:Int),((0:Int),((0:Int),((0:Int),((2:Int),((0:Int),())))))))),((15:Int),XF)]);(xN N r5.2 a1).bind fun r8=>cond (small (List.length v7+List.length r8.1)) ((z6 N a1 (v7++r8.1)).bind fun jK=>some (jK.1,r8.2)) (none)) (none)) (none)) (none)
abbrev lA.aW:=ax→ax→Int→Option (Bool)
def lA.cn(N:Nat)(bt:lA.aW)(x0:ax)(x1:ax)(x5:Int):Option (Bool):=
 cond (aH x5 (List.length x0:Int)) (cond (aJ x5 (List.length x0)) (cond (aJ x5 (List.length x1)) (cond (!(la (.pair (.int .i64) (.pair (.int .i64) .unit)) (List.getD x0 x5.toNat cc) (List.getD x1 x5.toNat cc))) (some false) (bt x0 x1 (W .i64 (x5+1)))) (none)) (none)) (some true)
def lA.l4(N:Nat):Nat→lA.aW
 |0,_,_,_=>none
 |n+1,x0,x1,x5=>lA.cn N (lA.l4 N n) x0 x1 x5
def lA.b(N:Nat)(cW:lA.aW)(a0:ax)(a1:ax):Option (Bool):=
 cond (!az (List.length a0:Int) (List.length a1:Int)) (some false) (cW a0 a1 (0:Int))
def lA(N:Nat)(a0:ax)(a1:ax):Option (Bool):=lA.b N (lA.l4 N N) a0 a1
abbrev lB.aW:=aE→aE→Int→Option (Bool)
def lB.cn(N:Nat)(bt:lB.aW)(x0:aE)(x1:aE)(x5:Int):Option (Bool):=
 cond (aH x5 (List.length x0:Int)) (cond (aJ x5 (List.length x0)) (cond (aJ x5 (List.length x1)) (cond (!(la (.pair (.int .i64) (.pair (.int .i64) (.pair (.int .i64) (.pair (.int .i64) .unit)))) (List.getD x0 x5.toNat aN) (List.getD x1 x5.toNat aN))) (some false) (bt x0 x1 (W .i64 (x5+1)))) (none)) (none)) (some true)
def lB.l4(N:Nat):Nat→lB.aW
 |0,_,_,_=>none
 |n+1,x0,x1,x5=>lB.cn N (lB.l4 N n) x0 x1 x5
def lB.b(N:Nat)(cW:lB.aW)(a0:aE)(a1:aE):Option (Bool):=
 cond (!az (List.length a0:Int) (List.length a1:Int)) (some false) (cW a0 a1 (0:Int))
def lB(N:Nat)(a0:aE)(a1:aE):Option (Bool):=lB.b N (lB.l4 N N) a0 a1
abbrev xI.aW:=aj→aj→Int→Option (Bool)
def xI.cn(N:Nat)(bt:xI.aW)(x0:aj)(x1:aj)(x5:Int):Option (Bool):=
 cond (aH x5 (List.length x0:Int)) (cond (aJ x5 (List.length x0)) (cond (aJ x5 (List.length x1)) (cond (!(la (.pair (.int .i64) (.pair (.int .i64) (.pair (.int .i64) .unit))) (List.getD x0 x5.toNat aS) (List.getD x1 x5.toNat aS))) (some false) (bt x0 x1 (W .i64 (x5+1)))) (none)) (none)) (some true)
def xI.l4(N:Nat):Nat→xI.aW
 |0,_,_,_=>none
 |n+1,x0,x1,x5=>xI.cn N (xI.l4 N n) x0 x1 x5
def xI.b(N:Nat)(cW:xI.aW)(a0:aj)(a1:aj):Option (Bool):=
 cond (!az (List.length a0:Int) (List.length a1:Int)) (some false) (cW a0 a1 (0:Int))
def xI(N:Nat)(a0:aj)(a1:aj):Option (Bool):=xI.b N (xI.l4 N N) a0 a1
abbrev xK.aW:=(List (Int))→(List (Int))→Int→Option (Bool)
def xK.cn(N:Nat)(bt:xK.aW)(x0:List (Int))(x1:List (Int))(x5:Int):Option (Bool):=
 cond (aH x5 (List.length x0:Int)) (cond (aJ x5 (List.length x0)) (cond (aJ x5 (List.length x1)) (cond (!az (List.getD x0 x5.toNat (0:Int)) (List.getD x1 x5.toNat (0:Int))) (some false) (bt x0 x1 (W .i64 (x5+1)))) (none)) (none)) (some true)
def xK.l4(N:Nat):Nat→xK.aW
 |0,_,_,_=>none
 |n+1,x0,x1,x5=>xK.cn N (xK.l4 N n) x0 x1 x5
def xK.b(N:Nat)(cW:xK.aW)(a0:List (Int))(a1:List (Int)):Option (Bool):=
 cond (!az (List.length a0:Int) (List.length a1:Int)) (some false) (cW a0 a1 (0:Int))
def xK(N:Nat)(a0:List (Int))(a1:List (Int)):Option (Bool):=xK.b N (xK.l4 N N) a0 a1
abbrev xJ.aW:=a6→a6→Int→Option (Bool)
def xJ.cn(N:Nat)(bt:xJ.aW)(x0:a6)(x1:a6)(x5:Int):Option (Bool):=
 cond (aH x5 (List.length x0:Int)) (cond (aJ x5 (List.length x0)) (cond (aJ x5 (List.length x1)) (cond (!(la (.pair (.int .i64) (.pair (.int .i64) (.pair (.int .i64) (.pair (.int .i64) (.pair (.int .i64) (.pair (.int .i64) .unit)))))) (List.getD x0 x5.toNat eB) (List.getD x1 x5.toNat eB))) (some false) (bt x0 x1 (W .i64 (x5+1)))) (none)) (none)) (some true)
def xJ.l4(N:Nat):Nat→xJ.aW
 |0,_,_,_=>none
 |n+1,x0,x1,x5=>xJ.cn N (xJ.l4 N n) x0 x1 x5
def xJ.b(N:Nat)(cW:xJ.aW)(a0:a6)(a1:a6):Option (Bool):=
 cond (!az (List.length a0:Int) (List.length a1:Int)) (some false) (cW a0 a1 (0:Int))
def xJ(N:Nat)(a0:a6)(a1:a6):Option (Bool):=xJ.b N (xJ.l4 N N) a0 a1
def F57(N:Nat)(a0:ah)(a1:ah):Option (Bool):=
 (lA N a0.1 a1.1).bind fun r1=>cond (r1) ((lB N a0.2.1 a1.2.1).bind fun r2=>cond (r2) ((xI N a0.2.2.1 a1.2.2.1).bind fun r3=>cond (r3) ((vm N a0.2.2.2.1 a1.2.2.2.1).bind fun r4=>cond (r4) ((xK N a0.2.2.2.2.1 a1.2.2.2.2.1).bind fun r5=>cond (r5) ((xJ N a0.2.2.2.2.2.1 a1.2.2.2.2.2.1).bind fun r6=>some r6) (some false)) (some false)) (some false)) (some false)) (some false)
def F29(N:Nat)(a0:ae)(a1:ah)(a2:Int):Option (Bool):=
 (lI N a0 a1 a2).bind fun r1=>(jT N a0 a1 a2).bind fun r2=>(xO N a0 a1).bind fun r3=>(tE N a0 a1).bind fun r4=>cond (az r1.2 r2.2) ((vn N r1.1 r2.1).bind fun r5=>cond (r5) (cond (az r3.2 r4.2) ((F57 N r3.1 r4.1).bind fun r6=>some r6) (some false)) (some false)) (some false)
abbrev F6.cN:=ae→ah→Int→Option (Bool)
def F6.ll(N:Nat)(cE:F6.cN)(x4:ae)(x5:ah)(x6:Int):Option (Bool):=
 cond (bV x6 (List.length x4.1:Int)) ((F29 N x4 x5 x6).bind fun r6=>cond (!r6) (some false) (cE x4 x5 (W .i64 (x6+1)))) (some true)
def F6.l7(N:Nat):Nat→F6.cN
 |0,_,_,_=>none
 |n+1,x4,x5,x6=>F6.ll N (F6.l7 N n) x4 x5 x6
def F6.b(N:Nat)(nx:F6.cN)(a0:List (Int)):Option (Bool):=
 (F26 N).bind fun r1=>cond (!r1) (some false) ((F13 N a0).bind fun r2=>(pQ N r2).bind fun r3=>(F28 N r3.2 r3.1 (40:Int)).bind fun r4=>nx r3.1 r4.1.2.2.1 (0:Int))
def F6(N:Nat)(a0:List (Int)):Option (Bool):=F6.b N (F6.l7 N N) a0
end
end VM.F
