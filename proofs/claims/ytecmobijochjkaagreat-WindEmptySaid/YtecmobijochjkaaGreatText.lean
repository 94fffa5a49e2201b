/- A part of the proof of WindEmpty of layer 21: the functions as equations between values, printed by a program. -/
import Derived.Test.YtecmobijochjkaaGreatVm0
set_option linter.all false
namespace VM.F
open Go VM
set_option maxRecDepth 100000
noncomputable section
abbrev lf:Ty:=(.pair .str (.pair (.int .u64) .unit))
abbrev jB:Ty:=(.pair (.int .i64) (.pair (.int .i64) .unit))
abbrev fR:Ty:=(.pair (.int .i64) (.pair (.int .u64) .unit))
abbrev cV:Ty:=(.pair .bool (.pair (.slice (.int .u64)) .unit))
abbrev dM:Ty:=(.pair (.slice (.int .u64)) (.pair (.int .i64) .unit))
abbrev js:Ty:=(.pair (.int .i64) jB)
abbrev u5:Ty:=(.pair (.int .i64) (.pair (.int .i64) (.pair .bool (.pair (.int .u8) .unit))))
abbrev eB:Ty:=(.pair (.int .i64) js)
abbrev xb:Ty:=(.pair (.int .i64) (.pair (.int .i64) (.pair fR .unit)))
abbrev sX:Ty:=(.pair (.int .i64) eB)
abbrev rK:Ty:=(.pair (.int .i64) (.pair (.int .i64) (.pair cV .unit)))
abbrev mQ:Ty:=(.pair (.int .i64) sX)
abbrev kX:Ty:=(.pair (.int .i64) (.pair (.int .i64) mQ))
abbrev jj:Ty:=(.pair (.int .i64) (.pair (.slice jB) eB))
abbrev gK:Ty:=(.pair (.int .i64) (.pair (.int .i64) (.pair (.slice sX) (.pair (.int .i64) .unit))))
abbrev aA:Ty:=(.pair (.slice eB) mQ)
abbrev aL:Ty:=(.pair (.slice jB) (.pair (.slice eB) (.pair (.slice js) (.pair (.slice js) (.pair (.slice (.int .i64)) (.pair (.slice mQ) .unit))))))
abbrev rF:Ty:=(.pair (.int .i64) (.pair (.int .i64) (.pair (.int .i64) (.pair (.int .i64) (.pair (.slice eB) (.pair (.slice jj) (.pair (.slice eB) (.pair (.slice (.int .i64)) (.pair (.slice jB) (.pair (.slice jB) .unit))))))))))
abbrev du:Ty:=(.pair (.int .i64) (.pair (.int .i64) (.pair aL (.pair rF (.pair gK .unit)))))
abbrev mu:Ty:=(.pair aA (.pair du (.pair (.int .i64) .unit)))
abbrev Om:=Ty.den lf
abbrev On:=List (Ty.den lf)
abbrev yV:=Ty.den jB
abbrev aE:=List (Ty.den jB)
abbrev cz:=Ty.den fR
abbrev jC:=List (Ty.den fR)
abbrev aH:=Ty.den cV
abbrev pf:=List (Ty.den cV)
abbrev aM:=Ty.den dM
abbrev asl:=List (Ty.den dM)
abbrev da:=Ty.den js
abbrev au:=List (Ty.den js)
abbrev Y6:=Ty.den u5
abbrev Y7:=List (Ty.den u5)
abbrev bI:=Ty.den eB
abbrev aK:=List (Ty.den eB)
abbrev uI:=Ty.den xb
abbrev dh:=List (Ty.den xb)
abbrev sW:=Ty.den sX
abbrev bK:=List (Ty.den sX)
abbrev ahP:=Ty.den rK
abbrev bE:=List (Ty.den rK)
abbrev gm:=Ty.den mQ
abbrev bs:=List (Ty.den mQ)
abbrev gO:=Ty.den kX
abbrev cT:=List (Ty.den kX)
abbrev ir:=Ty.den jj
abbrev bA:=List (Ty.den jj)
abbrev dK:=Ty.den gK
abbrev anc:=List (Ty.den gK)
abbrev ae:=Ty.den aA
abbrev ane:=List (Ty.den aA)
abbrev an:=Ty.den aL
abbrev asm:=List (Ty.den aL)
abbrev alf:=Ty.den rF
abbrev alg:=List (Ty.den rF)
abbrev aQ:=Ty.den du
abbrev aqx:=List (Ty.den du)
abbrev cC:=Ty.den mu
abbrev aqy:=List (Ty.den mu)
def F56(N:Nat):Option (ae×an):=
 some (([((0:Int),((100:Int),((2:Int),((3:Int),()))))],((0:Int),((0:Int),((0:Int),((0:Int),((1:Int),((0:Int),()))))))),([((1:Int),((3:Int),())),((2:Int),((1:Int),()))],([((1:Int),((1:Int),((1:Int),((0:Int),())))),((2:Int),((1:Int),((2:Int),((0:Int),())))),((3:Int),((2:Int),((1:Int),((0:Int),()))))],([((1:Int),((0:Int),((-10:Int),()))),((5:Int),((1:Int),((-10:Int),()))),((5:Int),((2:Int),((20:Int),())))],([((1:Int),((0:Int),((1:Int),()))),((2:Int),((0:Int),((5:Int),()))),((3:Int),((0:Int),((-6:Int),())))],([(100:Int)],(dQ,())))))))
def Du(N:Nat)(a0:Int)(a1:Int)(a2:Int):Option (Bool):=
 cond (dj a1 a0) (some (dj a0 a2)) (some false)
abbrev CJ.bS:=ae→aK→Int→Int→Option (Bool)
def CJ.ei(N:Nat)(cF:CJ.bS)(x1:ae)(aX:aK)(bb:Int)(bV:Int):Option (Bool):=
 cond (aY bV bb) (cond (ba bV (List.length aX)) ((Du N ((List.getD aX bV.toNat aV).1) (0:Int) (3:Int)).bind λr3=>cond (!r3) (some false) ((Du N (((List.getD aX bV.toNat aV).2).1) (1:Int) (1000000000000:Int)).bind λr4=>cond (!r4) (some false) ((Du N ((((List.getD aX bV.toNat aV).2).2).1) (0:Int) (1000000000:Int)).bind λr5=>cond (!r5) (some false) ((Du N (((((List.getD aX bV.toNat aV).2).2).2).1) (0:Int) (1000000000:Int)).bind λr6=>cond (!r6) (some false) (cF x1 aX bb (W .i64 (bV+1))))))) (none)) (cond (dj 0 x1.2.1) ((Du N x1.2.2.1 (0:Int) (4:Int)).bind λr8=>cond (r8) ((Du N x1.2.2.2.1 (0:Int) (1000000:Int)).bind λr9=>cond (r9) ((Du N x1.2.2.2.2.1 (0:Int) (1000000:Int)).bind λkz=>cond (kz) ((Du N x1.2.2.2.2.2.1 (1:Int) (4611686018427387904:Int)).bind λnL=>cond (nL) (some (dj 0 x1.2.2.2.2.2.2.1)) (some false)) (some false)) (some false)) (some false)) (some false))
def CJ.l4(N:Nat):Nat→CJ.bS
 |0,_,_,_,_=>none
 |n+1,x1,aX,bb,bV=>CJ.ei N (CJ.l4 N n) x1 aX bb bV
def CJ.b(N:Nat)(fE:CJ.bS)(a0:ae):Option (Bool):=
 (Du N (List.length a0.1:Int) (1:Int) (6:Int)).bind λr1=>cond (!r1) (some false) (fE a0 a0.1 (List.length a0.1:Int) (0:Int))
def CJ(N:Nat)(a0:ae):Option (Bool):=CJ.b N (CJ.l4 N N) a0
abbrev o4.db:=aE→aE→Int→Int→Option (Bool)
def o4.gH(N:Nat)(eE:o4.db)(x0:aE)(x5:aE)(x6:Int)(x7:Int):Option (Bool):=
 cond (aY x7 x6) (cond (ba x7 (List.length x5)) (cond (aY ((List.getD x5 x7.toNat cD).1) (1:Int)) (some false) (cond (aY 12 ((List.getD x5 x7.toNat cD).1)) (some false) (cond (aY (((List.getD x5 x7.toNat cD).2).1) (1:Int)) (some false) (cond (aY 4 (((List.getD x5 x7.toNat cD).2).1)) (some false) (cond (aY 0 x7) (let v2:Int:=W .i64 (x7-1);cond (ba v2 (List.length x0)) (cond (dj ((List.getD x5 x7.toNat cD).1) ((List.getD x0 v2.toNat cD).1)) (some false) (eE x0 x5 x6 (W .i64 (x7+1)))) (none)) (eE x0 x5 x6 (W .i64 (x7+1)))))))) (none)) (some true)
def o4.l2(N:Nat):Nat→o4.db
 |0,_,_,_,_=>none
 |n+1,x0,x5,x6,x7=>o4.gH N (o4.l2 N n) x0 x5 x6 x7
def o4.b(N:Nat)(jm:o4.db)(a0:aE):Option (Bool):=
 jm a0 a0 (List.length a0:Int) (0:Int)
def o4(N:Nat)(a0:aE):Option (Bool):=o4.b N (o4.l2 N N) a0
abbrev mM.dT:=aK→(List (Bool))→aK→Int→Int→Option (Bool)
def mM.nO(N:Nat)(dp:mM.dT)(x0:aK)(x3:List (Bool))(x6:aK)(x7:Int)(x8:Int):Option (Bool):=
 cond (aY x8 x7) (cond (ba x8 (List.length x6)) (cond (aY ((List.getD x6 x8.toNat aV).1) (1:Int)) (some false) (cond (aY 24 ((List.getD x6 x8.toNat aV).1)) (some false) (cond (aY (((List.getD x6 x8.toNat aV).2).1) (1:Int)) (some false) (cond (aY 12 (((List.getD x6 x8.toNat aV).2).1)) (some false) (cond (!aO ((((List.getD x6 x8.toNat aV).2).2).1) (1:Int)) (cond (!aO ((((List.getD x6 x8.toNat aV).2).2).1) (2:Int)) (some false) (cond (aY (((((List.getD x6 x8.toNat aV).2).2).2).1) (0:Int)) (some false) (cond (aY 1000000000000 (((((List.getD x6 x8.toNat aV).2).2).2).1)) (some false) (cond (aY 0 x8) (let v2:Int:=W .i64 (x8-1);cond (ba v2 (List.length x0)) (cond (dj ((List.getD x6 x8.toNat aV).1) ((List.getD x0 v2.toNat aV).1)) (some false) (cond (aO ((((List.getD x6 x8.toNat aV).2).2).1) (1:Int)) (cond (ba (((List.getD x6 x8.toNat aV).2).1) 13) (cond (List.getD x3 (((List.getD x6 x8.toNat aV).2).1).toNat false) (some false) (cond (ba (((List.getD x6 x8.toNat aV).2).1) 13) (dp x0 (List.set x3 (((List.getD x6 x8.toNat aV).2).1).toNat true) x6 x7 (W .i64 (x8+1))) (none))) (none)) (dp x0 x3 x6 x7 (W .i64 (x8+1))))) (none)) (cond (aO ((((List.getD x6 x8.toNat aV).2).2).1) (1:Int)) (cond (ba (((List.getD x6 x8.toNat aV).2).1) 13) (cond (List.getD x3 (((List.getD x6 x8.toNat aV).2).1).toNat false) (some false) (cond (ba (((List.getD x6 x8.toNat aV).2).1) 13) (dp x0 (List.set x3 (((List.getD x6 x8.toNat aV).2).1).toNat true) x6 x7 (W .i64 (x8+1))) (none))) (none)) (dp x0 x3 x6 x7 (W .i64 (x8+1)))))))) (cond (aY (((((List.getD x6 x8.toNat aV).2).2).2).1) (0:Int)) (some false) (cond (aY 1000000000000 (((((List.getD x6 x8.toNat aV).2).2).2).1)) (some false) (cond (aY 0 x8) (let v7:Int:=W .i64 (x8-1);cond (ba v7 (List.length x0)) (cond (dj ((List.getD x6 x8.toNat aV).1) ((List.getD x0 v7.toNat aV).1)) (some false) (cond (aO ((((List.getD x6 x8.toNat aV).2).2).1) (1:Int)) (cond (ba (((List.getD x6 x8.toNat aV).2).1) 13) (cond (List.getD x3 (((List.getD x6 x8.toNat aV).2).1).toNat false) (some false) (cond (ba (((List.getD x6 x8.toNat aV).2).1) 13) (dp x0 (List.set x3 (((List.getD x6 x8.toNat aV).2).1).toNat true) x6 x7 (W .i64 (x8+1))) (none))) (none)) (dp x0 x3 x6 x7 (W .i64 (x8+1))))) (none)) (cond (aO ((((List.getD x6 x8.toNat aV).2).2).1) (1:Int)) (cond (ba (((List.getD x6 x8.toNat aV).2).1) 13) (cond (List.getD x3 (((List.getD x6 x8.toNat aV).2).1).toNat false) (some false) (cond (ba (((List.getD x6 x8.toNat aV).2).1) 13) (dp x0 (List.set x3 (((List.getD x6 x8.toNat aV).2).1).toNat true) x6 x7 (W .i64 (x8+1))) (none))) (none)) (dp x0 x3 x6 x7 (W .i64 (x8+1)))))))))))) (none)) (some true)
def mM.l3(N:Nat):Nat→mM.dT
 |0,_,_,_,_,_=>none
 |n+1,x0,x3,x6,x7,x8=>mM.nO N (mM.l3 N n) x0 x3 x6 x7 x8
def mM.b(N:Nat)(oD:mM.dT)(a0:aK):Option (Bool):=
 oD a0 (List.replicate 13 false) a0 (List.length a0:Int) (0:Int)
def mM(N:Nat)(a0:aK):Option (Bool):=mM.b N (mM.l3 N N) a0
abbrev Aq.bS:=Int→aE→Int→Int→Option (Int)
def Aq.ei(N:Nat)(cF:Aq.bS)(x1:Int)(bx:aE)(aX:Int)(bb:Int):Option (Int):=
 cond (aY bb aX) (cond (ba bb (List.length bx)) (cond (aO ((List.getD bx bb.toNat cD).1) x1) (some (((List.getD bx bb.toNat cD).2).1)) (cF x1 bx aX (W .i64 (bb+1)))) (none)) (some (0:Int))
def Aq.l4(N:Nat):Nat→Aq.bS
 |0,_,_,_,_=>none
 |n+1,x1,bx,aX,bb=>Aq.ei N (Aq.l4 N n) x1 bx aX bb
def Aq.b(N:Nat)(fE:Aq.bS)(a0:aE)(a1:Int):Option (Int):=
 (o4 N a0).bind λr1=>cond (!r1) (some (0:Int)) (fE a1 a0 (List.length a0:Int) (0:Int))
def Aq(N:Nat)(a0:aE)(a1:Int):Option (Int):=Aq.b N (Aq.l4 N N) a0 a1
abbrev Dx.bS:=aE→aK→Int→Int→Option (Bool)
def Dx.ei(N:Nat)(cF:Dx.bS)(x0:aE)(dN:aK)(eR:Int)(fA:Int):Option (Bool):=
 cond (aY fA eR) (cond (ba fA (List.length dN)) ((Aq N x0 (((List.getD dN fA.toNat aV).2).1)).bind λr4=>cond (aO r4 0) (some false) (cF x0 dN eR (W .i64 (fA+1)))) (none)) (some true)
def Dx.l4(N:Nat):Nat→Dx.bS
 |0,_,_,_,_=>none
 |n+1,x0,dN,eR,fA=>Dx.ei N (Dx.l4 N n) x0 dN eR fA
def Dx.b(N:Nat)(fE:Dx.bS)(a0:aE)(a1:aK):Option (Bool):=
 (o4 N a0).bind λr1=>cond (!r1) (some false) ((mM N a1).bind λr2=>cond (!r2) (some false) (fE a0 a1 (List.length a1:Int) (0:Int)))
def Dx(N:Nat)(a0:aE)(a1:aK):Option (Bool):=Dx.b N (Dx.l4 N N) a0 a1
def Qj(N:Nat)(a0:Int)(a1:Int):Option (Bool):=
 cond (aO a0 1) (some (aO a1 0)) (cond (aO a0 2) (some (aO a1 0)) (cond (aO a0 3) (some (aO a1 0)) (cond (aO a0 4) (some (aO a1 0)) (cond (aO a0 5) (cond (dj 1 a1) (some (dj a1 24)) (some false)) (cond (aO a0 6) (cond (dj 1 a1) (some (dj a1 12)) (some false)) (cond (aO a0 7) (cond (dj 1 a1) (some (dj a1 12)) (some false)) (some false)))))))
def Ql(N:Nat)(a0:Int)(a1:Int)(a2:da):Option (Int):=
 cond (!aO a0 a2.1) (some (W .i64 (a0-a2.1))) (some (W .i64 (a1-a2.2.1)))
abbrev Be.db:=au→au→Int→Int→Option (Bool)
def Be.gH(N:Nat)(eE:Be.db)(x0:au)(x5:au)(x6:Int)(x7:Int):Option (Bool):=
 cond (aY x7 x6) (cond (ba x7 (List.length x5)) ((Qj N ((List.getD x5 x7.toNat bl).1) (((List.getD x5 x7.toNat bl).2).1)).bind λr2=>cond (!r2) (some false) (cond (aO ((((List.getD x5 x7.toNat bl).2).2).1) (0:Int)) (some false) (cond (aY 0 x7) (let v3:Int:=W .i64 (x7-1);cond (ba v3 (List.length x0)) ((Ql N ((List.getD x5 x7.toNat bl).1) (((List.getD x5 x7.toNat bl).2).1) (List.getD x0 v3.toNat bl)).bind λr4=>cond (dj r4 0) (some false) (eE x0 x5 x6 (W .i64 (x7+1)))) (none)) (eE x0 x5 x6 (W .i64 (x7+1)))))) (none)) (some true)
def Be.l2(N:Nat):Nat→Be.db
 |0,_,_,_,_=>none
 |n+1,x0,x5,x6,x7=>Be.gH N (Be.l2 N n) x0 x5 x6 x7
def Be.b(N:Nat)(jm:Be.db)(a0:au):Option (Bool):=
 jm a0 a0 (List.length a0:Int) (0:Int)
def Be(N:Nat)(a0:au):Option (Bool):=Be.b N (Be.l2 N N) a0
def Vh(N:Nat)(a0:Int):Option cz:=
 cond (aY 63 0) (none) (some ((shr .i64 a0 63),((W .u64 a0),())))
abbrev mK.dT:=cz→Int→Int→Int→jC→Int→Int→Option (cz×(Bool))
def mK.nO(N:Nat)(dp:mK.dT)(x2:cz)(x4:Int)(x5:Int)(x6:Int)(bx:jC)(aX:Int)(bb:Int):Option (cz×(Bool)):=
 cond (aY bb aX) (cond (ba bb (List.length bx)) ((ym N x6 (((List.getD bx bb.toNat cD).2).1) (0:Int)).bind λr2=>(ym N x5 (W .u64 ((List.getD bx bb.toNat cD).1)) r2.2).bind λr4=>cond (aY 63 0) (none) (dp x2 (W .i64 ((W .i64 (x4+(shr .i64 ((List.getD bx bb.toNat cD).1) (63:Int))))+(W .i64 r4.2))) r4.1 r2.1 bx aX (W .i64 (bb+1)))) (none)) (cond (aY 63 0) (none) (cond (!aO x4 (shr .i64 (W .i64 x5) 63)) (some (cD,false)) (some (((W .i64 x5),(x6,())),true))))
def mK.l3(N:Nat):Nat→mK.dT
 |0,_,_,_,_,_,_,_=>none
 |n+1,x2,x4,x5,x6,bx,aX,bb=>mK.nO N (mK.l3 N n) x2 x4 x5 x6 bx aX bb
def mK.b(N:Nat)(oD:mK.dT)(a0:jC):Option (cz×(Bool)):=
 oD cD (0:Int) (0:Int) (0:Int) a0 (List.length a0:Int) (0:Int)
def mK(N:Nat)(a0:jC):Option (cz×(Bool)):=mK.b N (mK.l3 N N) a0
abbrev CK.bM:=cz→jC→au→Int→Int→Option cz
def CK.ed(N:Nat)(bO:CK.bM)(x2:cz)(x3:jC)(bb:au)(bV:Int)(cv:Int):Option cz:=
 cond (aY cv bV) (cond (ba cv (List.length bb)) ((Vh N ((((List.getD bb cv.toNat bl).2).2).1)).bind λr3=>cond (small (List.length x3+List.length ([r3]))) (bO x2 (x3++([r3])) bb bV (W .i64 (cv+1))) (none)) (none)) ((mK N x3).bind λr6=>some r6.1)
def CK.l5(N:Nat):Nat→CK.bM
 |0,_,_,_,_,_=>none
 |n+1,x2,x3,bb,bV,cv=>CK.ed N (CK.l5 N n) x2 x3 bb bV cv
def CK.b(N:Nat)(eW:CK.bM)(a0:au):Option cz:=
 (Be N a0).bind λr1=>cond (!r1) (some cD) (eW cD ([]) a0 (List.length a0:Int) (0:Int))
def CK(N:Nat)(a0:au):Option cz:=CK.b N (CK.l5 N N) a0
def WA(N:Nat)(a0:cz)(a1:cz):Option (Int):=
 cond (aY a0.1 a1.1) (some (-1:Int)) (cond (aO a0.1 a1.1) (cond (aY a0.2.1 a1.2.1) (some (-1:Int)) (cond (ql (.pair (.int .i64) (.pair (.int .u64) .unit)) a0 a1) (some (0:Int)) (some (1:Int)))) (cond (ql (.pair (.int .i64) (.pair (.int .u64) .unit)) a0 a1) (some (0:Int)) (some (1:Int))))
def F74(N:Nat)(a0:cz):Option (Int):=
 (WA N a0 cD).bind λr1=>some r1
def Qn(N:Nat)(a0:Int)(a1:Int):Option (Bool):=
 cond (dj 0 a0) (cond (dj a0 24) (cond (dj 0 a1) (some (aY a1 6)) (some false)) (some false)) (some false)
def Qo(N:Nat)(a0:Int):Option (Bool):=
 some (!aO a0 (-9223372036854775808))
def TO(N:Nat)(a0:Int)(a1:Int)(a2:da):Option (Int):=
 cond (!aO a0 a2.1) (some (W .i64 (a0-a2.1))) (some (W .i64 (a1-a2.2.1)))
abbrev ng.db:=au→au→Int→Int→Option (Bool)
def ng.gH(N:Nat)(eE:ng.db)(x0:au)(x5:au)(x6:Int)(x7:Int):Option (Bool):=
 cond (aY x7 x6) (cond (ba x7 (List.length x5)) ((Qn N ((List.getD x5 x7.toNat bl).1) (((List.getD x5 x7.toNat bl).2).1)).bind λr2=>cond (!r2) (some false) (cond (aO ((((List.getD x5 x7.toNat bl).2).2).1) (0:Int)) (some false) ((Qo N ((((List.getD x5 x7.toNat bl).2).2).1)).bind λr3=>cond (!r3) (some false) (cond (aY 0 x7) (let v4:Int:=W .i64 (x7-1);cond (ba v4 (List.length x0)) ((TO N ((List.getD x5 x7.toNat bl).1) (((List.getD x5 x7.toNat bl).2).1) (List.getD x0 v4.toNat bl)).bind λr5=>cond (dj r5 0) (some false) (eE x0 x5 x6 (W .i64 (x7+1)))) (none)) (eE x0 x5 x6 (W .i64 (x7+1))))))) (none)) (some true)
def ng.l2(N:Nat):Nat→ng.db
 |0,_,_,_,_=>none
 |n+1,x0,x5,x6,x7=>ng.gH N (ng.l2 N n) x0 x5 x6 x7
def ng.b(N:Nat)(jm:ng.db)(a0:au):Option (Bool):=
 jm a0 a0 (List.length a0:Int) (0:Int)
def ng(N:Nat)(a0:au):Option (Bool):=ng.b N (ng.l2 N N) a0
abbrev o6.bM:=Int→cz→jC→au→Int→Int→Option cz
def o6.ed(N:Nat)(bO:o6.bM)(x1:Int)(x4:cz)(x5:jC)(cv:au)(dN:Int)(eR:Int):Option cz:=
 cond (aY eR dN) (cond (ba eR (List.length cv)) (cond (aO (((List.getD cv eR.toNat bl).2).1) x1) ((Vh N ((((List.getD cv eR.toNat bl).2).2).1)).bind λr3=>cond (small (List.length x5+List.length ([r3]))) (bO x1 x4 (x5++([r3])) cv dN (W .i64 (eR+1))) (none)) (bO x1 x4 x5 cv dN (W .i64 (eR+1)))) (none)) ((mK N x5).bind λr7=>some r7.1)
def o6.l5(N:Nat):Nat→o6.bM
 |0,_,_,_,_,_,_=>none
 |n+1,x1,x4,x5,cv,dN,eR=>o6.ed N (o6.l5 N n) x1 x4 x5 cv dN eR
def o6.b(N:Nat)(eW:o6.bM)(a0:au)(a1:Int):Option cz:=
 (ng N a0).bind λr1=>cond (!r1) (some cD) (eW a1 cD ([]) a0 (List.length a0:Int) (0:Int))
def o6(N:Nat)(a0:au)(a1:Int):Option cz:=o6.b N (o6.l5 N N) a0 a1
abbrev Dy.db:=au→Int→Option (Bool)
def Dy.gH(N:Nat)(eE:Dy.db)(x0:au)(x4:Int):Option (Bool):=
 cond (aY x4 6) ((o6 N x0 x4).bind λr2=>(F74 N r2).bind λr3=>cond (!aO r3 0) (some false) (eE x0 (W .i64 (x4+1)))) ((ng N x0).bind λr5=>some r5)
def Dy.l2(N:Nat):Nat→Dy.db
 |0,_,_=>none
 |n+1,x0,x4=>Dy.gH N (Dy.l2 N n) x0 x4
def Dy.b(N:Nat)(jm:Dy.db)(a0:au):Option (Bool):=
 jm a0 (0:Int)
def Dy(N:Nat)(a0:au):Option (Bool):=Dy.b N (Dy.l2 N N) a0
def Z9(N:Nat)(a0:gm):Option (Bool):=
 cond (dj 1 a0.1) (cond (dj a0.1 1099511627776) (cond (dj 1 a0.2.1) (cond (dj a0.2.1 24) (cond (dj 0 a0.2.2.1) (cond (aY a0.2.2.1 6) (cond (aO a0.2.2.2.1 1) (cond (dj 1 a0.2.2.2.2.1) (cond (dj a0.2.2.2.2.1 1000000000) (cond (dj 1 a0.2.2.2.2.2.1) (some (dj a0.2.2.2.2.2.1 1000000000000)) (some false)) (some false)) (some false)) (cond (aO a0.2.2.2.1 2) (cond (dj 1 a0.2.2.2.2.1) (cond (dj a0.2.2.2.2.1 1000000000) (cond (dj 1 a0.2.2.2.2.2.1) (some (dj a0.2.2.2.2.2.1 1000000000000)) (some false)) (some false)) (some false)) (some false))) (some false)) (some false)) (some false)) (some false)) (some false)) (some false)
abbrev Dw.db:=bs→bs→Int→Int→Option (Bool)
def Dw.gH(N:Nat)(eE:Dw.db)(x0:bs)(x5:bs)(x6:Int)(x7:Int):Option (Bool):=
 cond (aY x7 x6) (cond (ba x7 (List.length x5)) ((Z9 N (List.getD x5 x7.toNat fa)).bind λr2=>cond (!r2) (some false) (cond (aY 0 x7) (let v3:Int:=W .i64 (x7-1);cond (ba v3 (List.length x0)) (cond (dj ((List.getD x5 x7.toNat fa).1) ((List.getD x0 v3.toNat fa).1)) (some false) (eE x0 x5 x6 (W .i64 (x7+1)))) (none)) (eE x0 x5 x6 (W .i64 (x7+1))))) (none)) (some (dj (List.length x0:Int) 32))
def Dw.l2(N:Nat):Nat→Dw.db
 |0,_,_,_,_=>none
 |n+1,x0,x5,x6,x7=>Dw.gH N (Dw.l2 N n) x0 x5 x6 x7
def Dw.b(N:Nat)(jm:Dw.db)(a0:bs):Option (Bool):=
 jm a0 a0 (List.length a0:Int) (0:Int)
def Dw(N:Nat)(a0:bs):Option (Bool):=Dw.b N (Dw.l2 N N) a0
abbrev o5.bS:=Int→bI→aK→Int→Int→Option (bI×(Bool))
def o5.ei(N:Nat)(cF:o5.bS)(x1:Int)(x4:bI)(bb:aK)(bV:Int)(cv:Int):Option (bI×(Bool)):=
 cond (aY cv bV) (cond (ba cv (List.length bb)) (cond (aO ((List.getD bb cv.toNat aV).1) x1) (some (List.getD bb cv.toNat aV,true)) (cF x1 x4 bb bV (W .i64 (cv+1)))) (none)) (some (aV,false))
def o5.l4(N:Nat):Nat→o5.bS
 |0,_,_,_,_,_=>none
 |n+1,x1,x4,bb,bV,cv=>o5.ei N (o5.l4 N n) x1 x4 bb bV cv
def o5.b(N:Nat)(fE:o5.bS)(a0:aK)(a1:Int):Option (bI×(Bool)):=
 (mM N a0).bind λr1=>cond (!r1) (some (aV,false)) (fE a1 aV a0 (List.length a0:Int) (0:Int))
def o5(N:Nat)(a0:aK)(a1:Int):Option (bI×(Bool)):=o5.b N (o5.l4 N N) a0 a1
def F78(N:Nat)(a0:an)(a1:Int):Option (Bool):=
 (o5 N a0.2.1 a1).bind λr1=>some r1.2
def F81(N:Nat)(a0:Int):Option (Bool):=
 cond (dj 1 a0) (some (dj a0 1000000000000)) (some false)
def F80(N:Nat)(a0:Int):Option (Bool):=
 (F81 N a0).bind λr1=>some (!r1)
abbrev rU.db:=(List (Int))→Unit→Int→Int→Option (Int)
def rU.gH(N:Nat)(eE:rU.db)(x0:List (Int))(x1:Unit)(x7:Int)(x8:Int):Option (Int):=
 cond (aY x8 x7) (cond (ba x8 (List.length x0)) ((F80 N (List.getD x0 x8.toNat (0:Int))).bind λr2=>cond (r2) (some x8) (eE x0 () x7 (W .i64 (x8+1)))) (none)) (some (-1:Int))
def rU.l2(N:Nat):Nat→rU.db
 |0,_,_,_,_=>none
 |n+1,x0,x1,x7,x8=>rU.gH N (rU.l2 N n) x0 x1 x7 x8
def rU.b(N:Nat)(jm:rU.db)(a0:List (Int))(a1:Unit):Option (Int):=
 jm a0 () (List.length a0:Int) (0:Int)
def rU(N:Nat)(a0:List (Int))(a1:Unit):Option (Int):=rU.b N (rU.l2 N N) a0 a1
def F79(N:Nat)(a0:List (Int))(a1:Unit):Option (Bool):=
 (rU N a0 ()).bind λr1=>some (dj 0 r1)
abbrev lh.rL:=ae→an→bs→Int→Int→Option (Bool)
abbrev lh.mE:=ae→an→au→Int→Int→Option (Bool)
abbrev lh.bS:=ae→an→au→Int→Int→Option (Bool)
def lh.vx(N:Nat)(GG:lh.rL)(x2:ae)(x3:an)(rY:bs)(abi:Int)(Q9:Int):Option (Bool):=
 cond (aY Q9 abi) (cond (ba Q9 (List.length rY)) ((F78 N x3 (((List.getD rY Q9.toNat fa).2).1)).bind λC8=>cond (!C8) (some false) (cond (dj (List.length x2.1:Int) ((((List.getD rY Q9.toNat fa).2).2).1)) (some false) (GG x2 x3 rY abi (W .i64 (Q9+1))))) (none)) ((F79 N x3.2.2.2.2.1 ()).bind λBh=>some (!Bh))
def lh.wT(N:Nat):Nat→lh.rL
 |0,_,_,_,_,_=>none
 |n+1,x2,x3,rY,abi,Q9=>lh.vx N (lh.wT N n) x2 x3 rY abi Q9
def lh.vw(N:Nat)(GH:lh.rL)(nX:lh.mE)(x2:ae)(x3:an)(x83:au)(x84:Int)(Y8:Int):Option (Bool):=
 cond (aY Y8 x84) (cond (ba Y8 (List.length x83)) (cond (!aO ((List.getD x83 Y8.toNat bl).1) (0:Int)) ((F78 N x3 ((List.getD x83 Y8.toNat bl).1)).bind λzb=>cond (!zb) (some false) (cond (dj (List.length x2.1:Int) (((List.getD x83 Y8.toNat bl).2).1)) (some false) (nX x2 x3 x83 x84 (W .i64 (Y8+1))))) (cond (dj (List.length x2.1:Int) (((List.getD x83 Y8.toNat bl).2).1)) (some false) (nX x2 x3 x83 x84 (W .i64 (Y8+1))))) (none)) (GH x2 x3 x3.2.2.2.2.2.1 (List.length x3.2.2.2.2.2.1:Int) (0:Int))
def lh.wQ(N:Nat):Nat→lh.mE
 |0,_,_,_,_,_=>none
 |n+1,x2,x3,x83,x84,Y8=>lh.vw N (lh.wT N N) (lh.wQ N n) x2 x3 x83 x84 Y8
def lh.ei(N:Nat)(GI:lh.mE)(cF:lh.bS)(x2:ae)(x3:an)(U0:au)(x58:Int)(SO:Int):Option (Bool):=
 cond (aY SO x58) (cond (ba SO (List.length U0)) (cond (aO ((List.getD U0 SO.toNat bl).1) (5:Int)) ((F78 N x3 (((List.getD U0 SO.toNat bl).2).1)).bind λr9=>cond (!r9) (some false) (cF x2 x3 U0 x58 (W .i64 (SO+1)))) (cond (aO ((List.getD U0 SO.toNat bl).1) (6:Int)) ((Aq N x3.1 (((List.getD U0 SO.toNat bl).2).1)).bind λnL=>cond (aO nL 0) (some false) (cF x2 x3 U0 x58 (W .i64 (SO+1)))) (cond (aO ((List.getD U0 SO.toNat bl).1) (7:Int)) ((Aq N x3.1 (((List.getD U0 SO.toNat bl).2).1)).bind λqx=>cond (aO qx 0) (some false) (cF x2 x3 U0 x58 (W .i64 (SO+1)))) (cF x2 x3 U0 x58 (W .i64 (SO+1)))))) (none)) (GI x2 x3 x3.2.2.2.1 (List.length x3.2.2.2.1:Int) (0:Int))
def lh.l4(N:Nat):Nat→lh.bS
 |0,_,_,_,_,_=>none
 |n+1,x2,x3,U0,x58,SO=>lh.ei N (lh.wQ N N) (lh.l4 N n) x2 x3 U0 x58 SO
def lh.b(N:Nat)(fE:lh.bS)(a0:ae)(a1:an):Option (Bool):=
 (CJ N a0).bind λr1=>cond (!r1) (some false) ((Dx N a1.1 a1.2.1).bind λr2=>cond (!r2) (some false) ((Be N a1.2.2.1).bind λr3=>cond (!r3) (some false) ((CK N a1.2.2.1).bind λr4=>(F74 N r4).bind λr5=>cond (!aO r5 0) (some false) ((Dy N a1.2.2.2.1).bind λr6=>cond (!r6) (some false) ((Dw N a1.2.2.2.2.2.1).bind λr7=>cond (!r7) (some false) (cond (!aO (List.length a1.2.2.2.2.1:Int) (List.length a0.1:Int)) (some false) (fE a0 a1 a1.2.2.1 (List.length a1.2.2.1:Int) (0:Int))))))))
def lh(N:Nat)(a0:ae)(a1:an):Option (Bool):=lh.b N (lh.l4 N N) a0 a1
abbrev BK.bS:=Int→Int→au→Int→Int→Option (Int)
def BK.ei(N:Nat)(cF:BK.bS)(x1:Int)(x2:Int)(bb:au)(bV:Int)(cv:Int):Option (Int):=
 cond (aY cv bV) (cond (ba cv (List.length bb)) (cond (aO ((List.getD bb cv.toNat bl).1) x1) (cond (aO (((List.getD bb cv.toNat bl).2).1) x2) (some ((((List.getD bb cv.toNat bl).2).2).1)) (cF x1 x2 bb bV (W .i64 (cv+1)))) (cF x1 x2 bb bV (W .i64 (cv+1)))) (none)) (some (0:Int))
def BK.l4(N:Nat):Nat→BK.bS
 |0,_,_,_,_,_=>none
 |n+1,x1,x2,bb,bV,cv=>BK.ei N (BK.l4 N n) x1 x2 bb bV cv
def BK.b(N:Nat)(fE:BK.bS)(a0:au)(a1:Int)(a2:Int):Option (Int):=
 (Be N a0).bind λr1=>cond (!r1) (some (0:Int)) (fE a1 a2 a0 (List.length a0:Int) (0:Int))
def BK(N:Nat)(a0:au)(a1:Int)(a2:Int):Option (Int):=BK.b N (BK.l4 N N) a0 a1 a2
abbrev BM.bM:=Int→aE→au→Int→Int→Option aE
def BM.ed(N:Nat)(bO:BM.bM)(x1:Int)(x5:aE)(aX:au)(bb:Int)(bV:Int):Option aE:=
 cond (aY bV bb) (cond (ba bV (List.length aX)) (cond (aO ((List.getD aX bV.toNat bl).1) x1) (cond (small (List.length x5+List.length ([(((List.getD aX bV.toNat bl).2).1,((((List.getD aX bV.toNat bl).2).2).1,()))]))) (bO x1 (x5++([(((List.getD aX bV.toNat bl).2).1,((((List.getD aX bV.toNat bl).2).2).1,()))])) aX bb (W .i64 (bV+1))) (none)) (bO x1 x5 aX bb (W .i64 (bV+1)))) (none)) (some x5)
def BM.l5(N:Nat):Nat→BM.bM
 |0,_,_,_,_,_=>none
 |n+1,x1,x5,aX,bb,bV=>BM.ed N (BM.l5 N n) x1 x5 aX bb bV
def BM.b(N:Nat)(eW:BM.bM)(a0:au)(a1:Int):Option aE:=
 (ng N a0).bind λr1=>cond (!r1) (some ([])) (eW a1 ([]) a0 (List.length a0:Int) (0:Int))
def BM(N:Nat)(a0:au)(a1:Int):Option aE:=BM.b N (BM.l5 N N) a0 a1
abbrev pE.db:=aE→ae→aE→Int→Int→Option (Bool)
def pE.gH(N:Nat)(eE:pE.db)(x1:aE)(x2:ae)(x7:aE)(x8:Int)(x9:Int):Option (Bool):=
 cond (aY x9 x8) (cond (ba x9 (List.length x7)) (cond (aY ((List.getD x7 x9.toNat cD).1) (0:Int)) (some false) (cond (dj (List.length x2.1:Int) ((List.getD x7 x9.toNat cD).1)) (some false) (cond (aO (((List.getD x7 x9.toNat cD).2).1) (0:Int)) (some false) ((Qo N (((List.getD x7 x9.toNat cD).2).1)).bind λr2=>cond (!r2) (some false) (cond (aY 0 x9) (let v3:Int:=W .i64 (x9-1);cond (ba v3 (List.length x1)) (cond (dj ((List.getD x7 x9.toNat cD).1) ((List.getD x1 v3.toNat cD).1)) (some false) (eE x1 x2 x7 x8 (W .i64 (x9+1)))) (none)) (eE x1 x2 x7 x8 (W .i64 (x9+1)))))))) (none)) ((CJ N x2).bind λr6=>some r6)
def pE.l2(N:Nat):Nat→pE.db
 |0,_,_,_,_,_=>none
 |n+1,x1,x2,x7,x8,x9=>pE.gH N (pE.l2 N n) x1 x2 x7 x8 x9
def pE.b(N:Nat)(jm:pE.db)(a0:ae)(a1:aE):Option (Bool):=
 jm a1 a0 a1 (List.length a1:Int) (0:Int)
def pE(N:Nat)(a0:ae)(a1:aE):Option (Bool):=pE.b N (pE.l2 N N) a0 a1
def TI(N:Nat)(a0:Int):Option (Int):=
 cond (aY a0 0) (some (W .u64 (0-(W .u64 a0)))) (some (W .u64 a0))
def ahV(N:Nat)(a0:bI):Option (Int):=
 some a0.2.2.2.1
def ZW(N:Nat)(a0:Int)(a1:Int):Option ((Int)×(Int)):=
 let v1:Int:=qL .and .u64 a0 4294967295;cond (aY 32 0) (none) (let v2:Int:=shr .u64 a0 32;let v3:Int:=qL .and .u64 a1 4294967295;cond (aY 32 0) (none) (let v4:Int:=shr .u64 a1 32;cond (aY 32 0) (none) (let v8:Int:=W .u64 ((W .u64 (v2*v3))+(shr .u64 (W .u64 (v1*v3)) (32:Int)));cond (aY 32 0) (none) (cond (aY 32 0) (none) (some ((W .u64 ((W .u64 ((W .u64 (v2*v4))+(shr .u64 v8 32)))+(shr .u64 (W .u64 ((qL .and .u64 v8 4294967295)+(W .u64 (v1*v4)))) (32:Int)))),(W .u64 (a0*a1))))))))
abbrev rT.Yj:=Int→Int→cz→Option (cz×(Bool))
def rT.Vg(N:Nat)(x1:Int)(x2:Int)(x6:cz):Option (cz×(Bool)):=
 (vb N (0:Int) x2 (0:Int)).bind λr3=>(vb N (0:Int) x1 r3.2).bind λr4=>some (((W .i64 r4.1),(r3.1,())),true)
def rT.j7(N:Nat)(x1:Int)(x2:Int)(x6:cz):Option (cz×(Bool)):=rT.Vg N x1 x2 x6
def rT.b(N:Nat)(HX:rT.Yj)(a0:Bool)(a1:Int)(a2:Int):Option (cz×(Bool)):=
 cond (!a0) (cond (dj 9223372036854775808 a1) (some (cD,false)) (some (((W .i64 a1),(a2,())),true))) (cond (aY 9223372036854775808 a1) (some (cD,false)) (cond (aO a1 9223372036854775808) (cond (aY 0 a2) (some (cD,false)) (HX a1 a2 cD)) (HX a1 a2 cD)))
def rT(N:Nat)(a0:Bool)(a1:Int)(a2:Int):Option (cz×(Bool)):=rT.b N (rT.j7 N) a0 a1 a2
def Z5(N:Nat)(a0:Int)(a1:Int):Option cz:=
 (TI N a0).bind λr1=>(TI N a1).bind λr2=>(ZW N r1 r2).bind λr3=>(rT N (!(ql .bool (aY a0 0) (aY a1 0))) r3.1 r3.2).bind λr4=>some r4.1
abbrev pF.bM:=Unit→ae→cz→jC→aE→Int→Int→Option (cz×(Int))
def pF.ed(N:Nat)(bO:pF.bM)(x2:Unit)(x3:ae)(x6:cz)(x8:jC)(mN:aE)(nP:Int)(DH:Int):Option (cz×(Int)):=
 cond (aY DH nP) (cond (ba DH (List.length mN)) ((TI N (((List.getD mN DH.toNat cD).2).1)).bind λr3=>cond (ba ((List.getD mN DH.toNat cD).1) (List.length x3.1)) ((ahV N (List.getD x3.1 ((List.getD mN DH.toNat cD).1).toNat aV)).bind λr5=>(Z5 N (W .i64 r3) r5).bind λr6=>cond (small (List.length x8+List.length ([r6]))) (bO () x3 x6 (x8++([r6])) mN nP (W .i64 (DH+1))) (none)) (none)) (none)) ((mK N x8).bind λr9=>some (r9.1,(0:Int)))
def pF.l5(N:Nat):Nat→pF.bM
 |0,_,_,_,_,_,_,_=>none
 |n+1,x2,x3,x6,x8,mN,nP,DH=>pF.ed N (pF.l5 N n) x2 x3 x6 x8 mN nP DH
def pF.b(N:Nat)(eW:pF.bM)(a0:ae)(a1:aE)(a2:Unit):Option (cz×(Int)):=
 (pE N a0 a1).bind λr1=>cond (!r1) (some (cD,(1:Int))) (eW () a0 cD ([]) a1 (List.length a1:Int) (0:Int))
def pF(N:Nat)(a0:ae)(a1:aE)(a2:Unit):Option (cz×(Int)):=pF.b N (pF.l5 N N) a0 a1 a2
def F89(N:Nat)(a0:ae)(a1:aE):Option (cz×(Int)):=
 (pF N a0 a1 ()).bind λr1=>some (r1.1,r1.2)
def F91(N:Nat)(a0:Int)(a1:cz):Option (Bool):=
 (Vh N a0).bind λr1=>(WA N r1 a1).bind λr2=>some (dj 0 r2)
def F92(N:Nat)(a0:cz):Option ((Int)×(Bool)):=
 cond (aY 63 0) (none) (cond (!aO a0.1 (shr .i64 (W .i64 a0.2.1) 63)) (some ((0:Int),false)) (some ((W .i64 a0.2.1),true)))
def F31(N:Nat)(a0:ae)(a1:an)(a2:Int):Option ((Int)×(Int)):=
 (lh N a0 a1).bind λr1=>cond (!r1) (some ((0:Int),(1:Int))) ((F78 N a1 a2).bind λr2=>cond (!r2) (some ((0:Int),(3:Int))) ((BK N a1.2.2.1 (5:Int) a2).bind λr3=>let v4:Int:=mx r3 0;(BM N a1.2.2.2.1 a2).bind λr5=>(F89 N a0 r5).bind λr6=>(F91 N v4 r6.1).bind λr7=>cond (r7) ((F92 N r6.1).bind λr8=>some (r8.1,(0:Int))) (some (v4,(0:Int)))))
def ahT(N:Nat)(a0:cz)(a1:cz):Option (cz×(Bool)):=
 (vb N a0.2.1 a1.2.1 (0:Int)).bind λr1=>(vb N (W .u64 a0.1) (W .u64 a1.1) r1.2).bind λr4=>let v5:Int:=W .i64 r4.1;cond (!(ql .bool (aY a0.1 0) (aY a1.1 0))) (cond (!(ql .bool (aY v5 0) (aY a0.1 0))) (some (cD,false)) (some ((v5,(r1.1,())),true))) (some ((v5,(r1.1,())),true))
def F66(N:Nat)(a0:cz):Option (cz×(Bool)):=
 (ahT N cD a0).bind λr1=>some (r1.1,r1.2)
abbrev CR.bM:=Int→Int→au→aE→Int→Int→Option au
def CR.ed(N:Nat)(bO:CR.bM)(x1:Int)(x2:Int)(x7:au)(xc:aE)(JD:Int)(vl:Int):Option au:=
 cond (aY vl JD) (cond (ba vl (List.length xc)) (let v6:Int:=W .i64 (0-(((List.getD xc vl.toNat cD).2).1));cond (small (List.length x7+List.length ([(x1,((List.getD xc vl.toNat cD).1,(v6,()))),(x2,((List.getD xc vl.toNat cD).1,(((List.getD xc vl.toNat cD).2).1,())))]))) (bO x1 x2 (x7++([(x1,((List.getD xc vl.toNat cD).1,(v6,()))),(x2,((List.getD xc vl.toNat cD).1,(((List.getD xc vl.toNat cD).2).1,())))])) xc JD (W .i64 (vl+1))) (none)) (none)) (some x7)
def CR.l5(N:Nat):Nat→CR.bM
 |0,_,_,_,_,_,_=>none
 |n+1,x1,x2,x7,xc,JD,vl=>CR.ed N (CR.l5 N n) x1 x2 x7 xc JD vl
def CR.b(N:Nat)(eW:CR.bM)(a0:au)(a1:Int)(a2:Int):Option au:=
 (ng N a0).bind λr1=>cond (!r1) (some ([])) ((Qn N a1 (0:Int)).bind λr2=>cond (!r2) (some ([])) ((Qn N a2 (0:Int)).bind λr3=>cond (!r3) (some ([])) (cond (aO a1 a2) (some ([])) ((BM N a0 a1).bind λr4=>eW a1 a2 ([]) r4 (List.length r4:Int) (0:Int)))))
def CR(N:Nat)(a0:au)(a1:Int)(a2:Int):Option au:=CR.b N (CR.l5 N N) a0 a1 a2
def aao(N:Nat)(a0:an):Option an:=
 (n0 N a0.1).bind λr1=>(n0 N a0.2.1).bind λr2=>(n0 N a0.2.2.1).bind λr3=>(n0 N a0.2.2.2.1).bind λr4=>(n0 N a0.2.2.2.2.1).bind λr5=>(n0 N a0.2.2.2.2.2.1).bind λr6=>some (r1,(r2,(r3,(r4,(r5,(r6,()))))))
abbrev gz.jD:=au→Int→jC→Int→au→Int→Int→Option (Bool)
abbrev gz.db:=au→Int→Option (Bool)
def gz.uw(N:Nat)(eE:gz.db)(kA:gz.jD)(x0:au)(x3:Int)(x4:jC)(x9:Int)(bb:au)(bV:Int)(cv:Int):Option (Bool):=
 cond (aY cv bV) (cond (ba cv (List.length bb)) (cond (aO (((List.getD bb cv.toNat bl).2).1) x3) ((Vh N ((((List.getD bb cv.toNat bl).2).2).1)).bind λr3=>cond (small (List.length x4+List.length ([r3]))) (kA x0 x3 (x4++([r3])) x9 bb bV (W .i64 (cv+1))) (none)) (kA x0 x3 x4 x9 bb bV (W .i64 (cv+1)))) (none)) ((mK N x4).bind λr7=>cond (!r7.2) (some false) ((F74 N r7.1).bind λr8=>cond (!aO r8 0) (some false) (eE x0 (W .i64 (x9+1)))))
def gz.l6(N:Nat)(eE:gz.db):Nat→gz.jD
 |0,_,_,_,_,_,_,_=>none
 |n+1,x0,x3,x4,x9,bb,bV,cv=>gz.uw N eE (gz.l6 N eE n) x0 x3 x4 x9 bb bV cv
def gz.gH(N:Nat)(xd:gz.jD)(eE:gz.db)(x0:au)(x9:Int):Option (Bool):=
 cond (aY x9 6) (xd x0 x9 ([]) x9 x0 (List.length x0:Int) (0:Int)) (some true)
def gz.l2(N:Nat):Nat→gz.db
 |0,_,_=>none
 |n+1,x0,x9=>gz.gH N (gz.l6 N (gz.l2 N n) N) (gz.l2 N n) x0 x9
def gz.b(N:Nat)(jm:gz.db)(a0:au):Option (Bool):=
 jm a0 (0:Int)
def gz(N:Nat)(a0:au):Option (Bool):=gz.b N (gz.l2 N N) a0
def aaf(N:Nat)(a0:au):Option au:=
 cond (jY 0 (List.length a0:Int) (List.length a0:Int) (List.length a0:Int)) (some (List.drop (0:Int).toNat (List.take (List.length a0:Int).toNat a0))) (none)
abbrev cn.ang:=au→au→da→Int→au→Int→Int→Option (au×(Int))
abbrev cn.mE:=au→au→da→Int→au→Int→Int→Option (au×(Int))
abbrev cn.Yk:=au→au→da→jC→au→Int→Int→au→Int→Int→Option (au×(Int))
abbrev cn.IE:=au→au→au→Int→Int→Option (au×(Int))
abbrev cn.eO:=au→au→au→Int→Int→Option (au×(Int))
abbrev cn.bS:=au→au→au→Int→Int→Option (au×(Int))
def cn.ahL(N:Nat)(fH:cn.eO)(x1:au)(x8:au)(bx:da)(aX:Int)(Oo:au)(PV:Int)(LG:Int):Option (au×(Int)):=
 cond (aO aX (List.length x8:Int)) ((pX N x8 aX ([(bx.1,(bx.2.1,((0:Int),())))])).bind λqx=>fH x1 qx Oo PV (W .i64 (LG+1))) (cond (ba aX (List.length x8)) ((TO N bx.1 bx.2.1 (List.getD x8 aX.toNat bl)).bind λvA=>cond (!aO vA 0) ((pX N x8 aX ([(bx.1,(bx.2.1,((0:Int),())))])).bind λxQ=>fH x1 xQ Oo PV (W .i64 (LG+1))) (fH x1 x8 Oo PV (W .i64 (LG+1)))) (none))
def cn.j18(N:Nat)(fH:cn.eO)(x1:au)(x8:au)(bx:da)(aX:Int)(Oo:au)(PV:Int)(LG:Int):Option (au×(Int)):=cn.ahL N fH x1 x8 bx aX Oo PV LG
def cn.vw(N:Nat)(agc:cn.ang)(fH:cn.eO)(nX:cn.mE)(x1:au)(x8:au)(bx:da)(aX:Int)(Oo:au)(PV:Int)(LG:Int):Option (au×(Int)):=
 cond (aY aX (List.length x8:Int)) (cond (ba aX (List.length x8)) ((TO N bx.1 bx.2.1 (List.getD x8 aX.toNat bl)).bind λkz=>cond (aY 0 kz) (nX x1 x8 bx (W .i64 (aX+1)) Oo PV LG) (agc x1 x8 bx aX Oo PV LG)) (none)) (agc x1 x8 bx aX Oo PV LG)
def cn.wQ(N:Nat)(fH:cn.eO):Nat→cn.mE
 |0,_,_,_,_,_,_,_=>none
 |n+1,x1,x8,bx,aX,Oo,PV,LG=>cn.vw N (cn.j18 N fH) fH (cn.wQ N fH n) x1 x8 bx aX Oo PV LG
def cn.aag(N:Nat)(JE:cn.IE)(Yl:cn.Yk)(x1:au)(bb:au)(cv:da)(dN:jC)(A5:au)(DI:Int)(rY:Int)(Lf:au)(U1:Int)(HY:Int):Option (au×(Int)):=
 cond (aY HY U1) (cond (ba HY (List.length Lf)) (cond (aO ((List.getD Lf HY.toNat bl).1) cv.1) (cond (aO (((List.getD Lf HY.toNat bl).2).1) cv.2.1) ((Vh N ((((List.getD Lf HY.toNat bl).2).2).1)).bind λBh=>cond (small (List.length dN+List.length ([Bh]))) (Yl x1 bb cv (dN++([Bh])) A5 DI rY Lf U1 (W .i64 (HY+1))) (none)) (Yl x1 bb cv dN A5 DI rY Lf U1 (W .i64 (HY+1)))) (Yl x1 bb cv dN A5 DI rY Lf U1 (W .i64 (HY+1)))) (none)) ((mK N dN).bind λY9=>(F92 N Y9.1).bind λEa=>cond (!Ea.2) (some (bG,(2:Int))) ((Qo N Ea.1).bind λRa=>cond (!Ra) (some (bG,(2:Int))) (cond (!aO Ea.1 0) (cond (small (List.length bb+List.length ([(cv.1,(cv.2.1,(Ea.1,())))]))) (JE x1 (bb++([(cv.1,(cv.2.1,(Ea.1,())))])) A5 DI (W .i64 (rY+1))) (none)) (JE x1 bb A5 DI (W .i64 (rY+1))))))
def cn.l27(N:Nat)(JE:cn.IE):Nat→cn.Yk
 |0,_,_,_,_,_,_,_,_,_,_=>none
 |n+1,x1,bb,cv,dN,A5,DI,rY,Lf,U1,HY=>cn.aag N JE (cn.l27 N JE n) x1 bb cv dN A5 DI rY Lf U1 HY
def cn.aai(N:Nat)(anh:cn.Yk)(JE:cn.IE)(x1:au)(bb:au)(A5:au)(DI:Int)(rY:Int):Option (au×(Int)):=
 cond (aY rY DI) (cond (ba rY (List.length A5)) ((Vh N ((((List.getD A5 rY.toNat bl).2).2).1)).bind λC8=>anh x1 bb (List.getD A5 rY.toNat bl) ([C8]) A5 DI rY x1 (List.length x1:Int) (0:Int)) (none)) ((aaf N bb).bind λYm=>some (Ym,(0:Int)))
def cn.l23(N:Nat):Nat→cn.IE
 |0,_,_,_,_,_=>none
 |n+1,x1,bb,A5,DI,rY=>cn.aai N (cn.l27 N (cn.l23 N n) N) (cn.l23 N n) x1 bb A5 DI rY
def cn.kP(N:Nat)(GI:cn.mE)(ani:cn.IE)(fH:cn.eO)(x1:au)(x8:au)(Oo:au)(PV:Int)(LG:Int):Option (au×(Int)):=
 cond (aY LG PV) (cond (ba LG (List.length Oo)) (GI x1 x8 (List.getD Oo LG.toNat bl) (0:Int) Oo PV LG) (none)) (cond (jX 0 (List.length x8:Int)) (ani x1 (List.replicate (0:Int).toNat bl) x8 (List.length x8:Int) (0:Int)) (none))
def cn.lj(N:Nat):Nat→cn.eO
 |0,_,_,_,_,_=>none
 |n+1,x1,x8,Oo,PV,LG=>cn.kP N (cn.wQ N (cn.lj N n) N) (cn.l23 N N) (cn.lj N n) x1 x8 Oo PV LG
def cn.ei(N:Nat)(rM:cn.eO)(cF:cn.bS)(x0:au)(x1:au)(xc:au)(JD:Int)(vl:Int):Option (au×(Int)):=
 cond (aY vl JD) (cond (ba vl (List.length xc)) ((Qn N ((List.getD xc vl.toNat bl).1) (((List.getD xc vl.toNat bl).2).1)).bind λr3=>cond (!r3) (some (bG,(1:Int))) ((Qo N ((((List.getD xc vl.toNat bl).2).2).1)).bind λr4=>cond (!r4) (some (bG,(1:Int))) (cF x0 x1 xc JD (W .i64 (vl+1))))) (none)) ((gz N x1).bind λr6=>cond (!r6) (some (bG,(1:Int))) ((n0 N x0).bind λr7=>rM x1 r7 x1 (List.length x1:Int) (0:Int)))
def cn.l4(N:Nat):Nat→cn.bS
 |0,_,_,_,_,_=>none
 |n+1,x0,x1,xc,JD,vl=>cn.ei N (cn.lj N N) (cn.l4 N n) x0 x1 xc JD vl
def cn.b(N:Nat)(fE:cn.bS)(a0:au)(a1:au):Option (au×(Int)):=
 (ng N a0).bind λr1=>cond (!r1) (some (bG,(1:Int))) (cond (aY 400 (List.length a1:Int)) (some (bG,(1:Int))) (fE a0 a1 a1 (List.length a1:Int) (0:Int)))
def cn(N:Nat)(a0:au)(a1:au):Option (au×(Int)):=cn.b N (cn.l4 N N) a0 a1
def ahN(N:Nat)(a0:au):Option au:=
 cond (jY 0 (List.length a0:Int) (List.length a0:Int) (List.length a0:Int)) (some (List.drop (0:Int).toNat (List.take (List.length a0:Int).toNat a0))) (none)
abbrev cq.anj:=dh→au→uI→Int→dh→Int→Int→Option (au×(Int))
abbrev cq.GJ:=dh→au→uI→Int→dh→Int→Int→Option (au×(Int))
abbrev cq.GK:=dh→au→da→jC→au→Int→Int→dh→Int→Int→Option (au×(Int))
abbrev cq.IN:=dh→au→au→Int→Int→Option (au×(Int))
abbrev cq.mE:=dh→au→dh→Int→Int→Option (au×(Int))
abbrev cq.bM:=au→dh→jC→dh→Int→Int→Option (au×(Int))
def cq.ahO(N:Nat)(nX:cq.mE)(x1:dh)(aX:au)(bV:uI)(cv:Int)(Oq:dh)(PW:Int)(LH:Int):Option (au×(Int)):=
 cond (aO cv (List.length aX:Int)) ((pX N aX cv ([(bV.1,(bV.2.1,((0:Int),())))])).bind λvA=>nX x1 vA Oq PW (W .i64 (LH+1))) (cond (ba cv (List.length aX)) ((Ql N bV.1 bV.2.1 (List.getD aX cv.toNat bl)).bind λzb=>cond (!aO zb 0) ((pX N aX cv ([(bV.1,(bV.2.1,((0:Int),())))])).bind λtR=>nX x1 tR Oq PW (W .i64 (LH+1))) (nX x1 aX Oq PW (W .i64 (LH+1)))) (none))
def cq.j21(N:Nat)(nX:cq.mE)(x1:dh)(aX:au)(bV:uI)(cv:Int)(Oq:dh)(PW:Int)(LH:Int):Option (au×(Int)):=cq.ahO N nX x1 aX bV cv Oq PW LH
def cq.Qx(N:Nat)(agd:cq.anj)(nX:cq.mE)(Yn:cq.GJ)(x1:dh)(aX:au)(bV:uI)(cv:Int)(Oq:dh)(PW:Int)(LH:Int):Option (au×(Int)):=
 cond (aY cv (List.length aX:Int)) (cond (ba cv (List.length aX)) ((Ql N bV.1 bV.2.1 (List.getD aX cv.toNat bl)).bind λnW=>cond (aY 0 nW) (Yn x1 aX bV (W .i64 (cv+1)) Oq PW LH) (agd x1 aX bV cv Oq PW LH)) (none)) (agd x1 aX bV cv Oq PW LH)
def cq.T1(N:Nat)(nX:cq.mE):Nat→cq.GJ
 |0,_,_,_,_,_,_,_=>none
 |n+1,x1,aX,bV,cv,Oq,PW,LH=>cq.Qx N (cq.j21 N nX) nX (cq.T1 N nX n) x1 aX bV cv Oq PW LH
def cq.KD(N:Nat)(JF:cq.IN)(C9:cq.GK)(x1:dh)(dN:au)(fA:da)(mN:jC)(A6:au)(DJ:Int)(zd:Int)(HZ:dh)(U2:Int)(GM:Int):Option (au×(Int)):=
 cond (aY GM U2) (cond (ba GM (List.length HZ)) (cond (aO ((List.getD HZ GM.toNat ((0:Int),((0:Int),(cD,())))).1) fA.1) (cond (aO (((List.getD HZ GM.toNat ((0:Int),((0:Int),(cD,())))).2).1) fA.2.1) (cond (small (List.length mN+List.length ([(((List.getD HZ GM.toNat ((0:Int),((0:Int),(cD,())))).2).2).1]))) (C9 x1 dN fA (mN++([(((List.getD HZ GM.toNat ((0:Int),((0:Int),(cD,())))).2).2).1])) A6 DJ zd HZ U2 (W .i64 (GM+1))) (none)) (C9 x1 dN fA mN A6 DJ zd HZ U2 (W .i64 (GM+1)))) (C9 x1 dN fA mN A6 DJ zd HZ U2 (W .i64 (GM+1)))) (none)) ((mK N mN).bind λEa=>(F92 N Ea.1).bind λRa=>cond (!Ea.2) (some (bG,(2:Int))) (cond (!Ra.2) (some (bG,(2:Int))) (cond (!aO Ra.1 0) (cond (small (List.length dN+List.length ([(fA.1,(fA.2.1,(Ra.1,())))]))) (JF x1 (dN++([(fA.1,(fA.2.1,(Ra.1,())))])) A6 DJ (W .i64 (zd+1))) (none)) (JF x1 dN A6 DJ (W .i64 (zd+1))))))
def cq.Nv(N:Nat)(JF:cq.IN):Nat→cq.GK
 |0,_,_,_,_,_,_,_,_,_,_=>none
 |n+1,x1,dN,fA,mN,A6,DJ,zd,HZ,U2,GM=>cq.KD N JF (cq.Nv N JF n) x1 dN fA mN A6 DJ zd HZ U2 GM
def cq.aam(N:Nat)(Yo:cq.GK)(JF:cq.IN)(x1:dh)(dN:au)(A6:au)(DJ:Int)(zd:Int):Option (au×(Int)):=
 cond (aY zd DJ) (cond (ba zd (List.length A6)) ((Vh N ((((List.getD A6 zd.toNat bl).2).2).1)).bind λBh=>Yo x1 dN (List.getD A6 zd.toNat bl) ([Bh]) A6 DJ zd x1 (List.length x1:Int) (0:Int)) (none)) ((ahN N dN).bind λYm=>some (Ym,(0:Int)))
def cq.l26(N:Nat):Nat→cq.IN
 |0,_,_,_,_,_=>none
 |n+1,x1,dN,A6,DJ,zd=>cq.aam N (cq.Nv N (cq.l26 N n) N) (cq.l26 N n) x1 dN A6 DJ zd
def cq.vw(N:Nat)(Yp:cq.GJ)(ank:cq.IN)(nX:cq.mE)(x1:dh)(aX:au)(Oq:dh)(PW:Int)(LH:Int):Option (au×(Int)):=
 cond (aY LH PW) (cond (ba LH (List.length Oq)) (Yp x1 aX (List.getD Oq LH.toNat ((0:Int),((0:Int),(cD,())))) (0:Int) Oq PW LH) (none)) (cond (jX 0 (List.length aX:Int)) (ank x1 (List.replicate (0:Int).toNat bl) aX (List.length aX:Int) (0:Int)) (none))
def cq.wQ(N:Nat):Nat→cq.mE
 |0,_,_,_,_,_=>none
 |n+1,x1,aX,Oq,PW,LH=>cq.vw N (cq.T1 N (cq.wQ N n) N) (cq.l26 N N) (cq.wQ N n) x1 aX Oq PW LH
def cq.ed(N:Nat)(GI:cq.mE)(bO:cq.bM)(x0:au)(x1:dh)(x6:jC)(x36:dh)(x37:Int)(x38:Int):Option (au×(Int)):=
 cond (aY x38 x37) (cond (ba x38 (List.length x36)) ((Qj N ((List.getD x36 x38.toNat ((0:Int),((0:Int),(cD,())))).1) (((List.getD x36 x38.toNat ((0:Int),((0:Int),(cD,())))).2).1)).bind λr4=>cond (!r4) (some (bG,(1:Int))) (cond (small (List.length x6+List.length ([(((List.getD x36 x38.toNat ((0:Int),((0:Int),(cD,())))).2).2).1]))) (bO x0 x1 (x6++([(((List.getD x36 x38.toNat ((0:Int),((0:Int),(cD,())))).2).2).1])) x36 x37 (W .i64 (x38+1))) (none))) (none)) ((mK N x6).bind λr7=>cond (!r7.2) (some (bG,(1:Int))) ((F74 N r7.1).bind λr8=>cond (!aO r8 0) (some (bG,(1:Int))) ((n0 N x0).bind λr9=>GI x1 r9 x1 (List.length x1:Int) (0:Int))))
def cq.l5(N:Nat):Nat→cq.bM
 |0,_,_,_,_,_,_=>none
 |n+1,x0,x1,x6,x36,x37,x38=>cq.ed N (cq.wQ N N) (cq.l5 N n) x0 x1 x6 x36 x37 x38
def cq.b(N:Nat)(eW:cq.bM)(a0:au)(a1:dh):Option (au×(Int)):=
 (Be N a0).bind λr1=>cond (!r1) (some (bG,(1:Int))) (cond (aY 400 (List.length a1:Int)) (some (bG,(1:Int))) (cond (jX 0 (List.length a1:Int)) (eW a0 a1 (List.replicate (0:Int).toNat cD) a1 (List.length a1:Int) (0:Int)) (none)))
def cq(N:Nat)(a0:au)(a1:dh):Option (au×(Int)):=cq.b N (cq.l5 N N) a0 a1
def F68(N:Nat)(a0:an)(a1:au)(a2:dh):Option (an×(Int)):=
 (aao N a0).bind λr1=>(cn N a0.2.2.2.1 a1).bind λr2=>cond (!aO r2.2 0) (some ((ck,(c8,(bG,(bG,(dC,(dQ,())))))),r2.2)) ((cq N a0.2.2.1 a2).bind λr3=>cond (!aO r3.2 0) (some ((ck,(c8,(bG,(bG,(dC,(dQ,())))))),r3.2)) (some ((r1.1,(r1.2.1,(r3.1,(r2.1,r1.2.2.2.2)))),(0:Int))))
abbrev sY.Yq:=Int→ae→an→an→au→dh→bI→Int→aK→Int→Int→Option (an×(Int))
abbrev sY.gQ:=Int→ae→an→an→au→dh→aK→Int→Int→Option (an×(Int))
def sY.NS(N:Nat)(e7:sY.gQ)(x2:Int)(x3:ae)(x4:an)(x6:an)(x8:au)(x9:dh)(aX:bI)(bb:Int)(xc:aK)(JD:Int)(vl:Int):Option (an×(Int)):=
 (BK N x4.2.2.1 (5:Int) aX.1).bind λr7=>(Vh N (W .i64 (bb+(mn r7 0)))).bind λkz=>(F66 N kz).bind λnL=>(CR N x4.2.2.2.1 aX.1 (0:Int)).bind λnW=>cond (small (List.length x8+List.length nW)) (cond (small (List.length x9+List.length ([((5:Int),(aX.1,(nL.1,()))),((2:Int),((0:Int),(kz,())))]))) (e7 x2 x3 x4 x6 (x8++nW) (x9++([((5:Int),(aX.1,(nL.1,()))),((2:Int),((0:Int),(kz,())))])) xc JD (W .i64 (vl+1))) (none)) (none)
def sY.Vj(N:Nat)(e7:sY.gQ)(x2:Int)(x3:ae)(x4:an)(x6:an)(x8:au)(x9:dh)(aX:bI)(bb:Int)(xc:aK)(JD:Int)(vl:Int):Option (an×(Int)):=sY.NS N e7 x2 x3 x4 x6 x8 x9 aX bb xc JD vl
def sY.yd(N:Nat)(Ot:sY.Yq)(e7:sY.gQ)(x2:Int)(x3:ae)(x4:an)(x6:an)(x8:au)(x9:dh)(xc:aK)(JD:Int)(vl:Int):Option (an×(Int)):=
 cond (aY vl JD) (cond (ba vl (List.length xc)) (cond (!aO (((List.getD xc vl.toNat aV).2).1) x2) (e7 x2 x3 x4 x6 x8 x9 xc JD (W .i64 (vl+1))) (cond (aO ((((List.getD xc vl.toNat aV).2).2).1) (2:Int)) ((F31 N x3 x4 ((List.getD xc vl.toNat aV).1)).bind λr5=>Ot x2 x3 x4 x6 x8 x9 (List.getD xc vl.toNat aV) r5.1 xc JD vl) (Ot x2 x3 x4 x6 x8 x9 (List.getD xc vl.toNat aV) (0:Int) xc JD vl))) (none)) ((F68 N x4 x8 x9).bind λxQ=>some (xQ.1,xQ.2))
def sY.l8(N:Nat):Nat→sY.gQ
 |0,_,_,_,_,_,_,_,_,_=>none
 |n+1,x2,x3,x4,x6,x8,x9,xc,JD,vl=>sY.yd N (sY.Vj N (sY.l8 N n)) (sY.l8 N n) x2 x3 x4 x6 x8 x9 xc JD vl
def sY.b(N:Nat)(B8:sY.gQ)(a0:ae)(a1:an)(a2:Int):Option (an×(Int)):=
 (lh N a0 a1).bind λr1=>cond (!r1) (some ((ck,(c8,(bG,(bG,(dC,(dQ,())))))),(1:Int))) ((Aq N a1.1 a2).bind λr2=>cond (aO r2 0) (some ((ck,(c8,(bG,(bG,(dC,(dQ,())))))),(3:Int))) (B8 a2 a0 a1 (ck,(c8,(bG,(bG,(dC,(dQ,())))))) ([]) ([]) a1.2.1 (List.length a1.2.1:Int) (0:Int)))
def sY(N:Nat)(a0:ae)(a1:an)(a2:Int):Option (an×(Int)):=sY.b N (sY.l8 N N) a0 a1 a2
abbrev zi.db:=au→Int→Option (Bool)
def zi.gH(N:Nat)(eE:zi.db)(x0:au)(x3:Int):Option (Bool):=
 cond (aY x3 (List.length x0:Int)) (cond (ba x3 (List.length x0)) (cond (aY ((List.getD x0 x3.toNat bl).1) (0:Int)) (some false) (cond (aY 24 ((List.getD x0 x3.toNat bl).1)) (some false) (cond (aY (((List.getD x0 x3.toNat bl).2).1) (0:Int)) (some false) (cond (dj 6 (((List.getD x0 x3.toNat bl).2).1)) (some false) (cond (aO ((((List.getD x0 x3.toNat bl).2).2).1) (0:Int)) (some false) (cond (aO ((((List.getD x0 x3.toNat bl).2).2).1) (-9223372036854775808:Int)) (some false) (cond (aY 0 x3) (let v2:Int:=W .i64 (x3-1);cond (ba v2 (List.length x0)) (cond (aY ((List.getD x0 x3.toNat bl).1) ((List.getD x0 v2.toNat bl).1)) (some false) (let v3:Int:=W .i64 (x3-1);cond (ba v3 (List.length x0)) (cond (aO ((List.getD x0 x3.toNat bl).1) ((List.getD x0 v3.toNat bl).1)) (let v4:Int:=W .i64 (x3-1);cond (ba v4 (List.length x0)) (cond (dj (((List.getD x0 x3.toNat bl).2).1) (((List.getD x0 v4.toNat bl).2).1)) (some false) (eE x0 (W .i64 (x3+1)))) (none)) (eE x0 (W .i64 (x3+1)))) (none))) (none)) (eE x0 (W .i64 (x3+1)))))))))) (none)) (some true)
def zi.l2(N:Nat):Nat→zi.db
 |0,_,_=>none
 |n+1,x0,x3=>zi.gH N (zi.l2 N n) x0 x3
def zi.b(N:Nat)(jm:zi.db)(a0:au):Option (Bool):=
 jm a0 (0:Int)
def zi(N:Nat)(a0:au):Option (Bool):=zi.b N (zi.l2 N N) a0
abbrev yZ.bS:=au→Int→Int→Int→Option (Int)
def yZ.ei(N:Nat)(cF:yZ.bS)(x0:au)(x1:Int)(x2:Int)(x7:Int):Option (Int):=
 cond (aY x7 (List.length x0:Int)) (cond (ba x7 (List.length x0)) (cond (aO ((List.getD x0 x7.toNat bl).1) x1) (cond (ba x7 (List.length x0)) (cond (aO (((List.getD x0 x7.toNat bl).2).1) x2) (cond (ba x7 (List.length x0)) (some ((((List.getD x0 x7.toNat bl).2).2).1)) (none)) (cF x0 x1 x2 (W .i64 (x7+1)))) (none)) (cF x0 x1 x2 (W .i64 (x7+1)))) (none)) (some (0:Int))
def yZ.l4(N:Nat):Nat→yZ.bS
 |0,_,_,_,_=>none
 |n+1,x0,x1,x2,x7=>yZ.ei N (yZ.l4 N n) x0 x1 x2 x7
def yZ.b(N:Nat)(fE:yZ.bS)(a0:au)(a1:Int)(a2:Int):Option (Int):=
 (zi N a0).bind λr1=>cond (!r1) (some (0:Int)) (fE a0 a1 a2 (0:Int))
def yZ(N:Nat)(a0:au)(a1:Int)(a2:Int):Option (Int):=yZ.b N (yZ.l4 N N) a0 a1 a2
def Qk(N:Nat)(a0:Int)(a1:Int):Option (Bool):=
 cond (aO a0 1) (some (aO a1 0)) (cond (aO a0 2) (some (aO a1 0)) (cond (aO a0 3) (some (aO a1 0)) (cond (aO a0 4) (some (aO a1 0)) (cond (aO a0 5) (cond (dj 1 a1) (some (dj a1 24)) (some false)) (cond (aO a0 6) (cond (dj 1 a1) (some (dj a1 12)) (some false)) (cond (aO a0 7) (cond (dj 1 a1) (some (dj a1 12)) (some false)) (some false)))))))
abbrev BC.db:=au→Int→Option (Bool)
def BC.gH(N:Nat)(eE:BC.db)(x0:au)(x3:Int):Option (Bool):=
 cond (aY x3 (List.length x0:Int)) (cond (ba x3 (List.length x0)) (cond (ba x3 (List.length x0)) ((Qk N ((List.getD x0 x3.toNat bl).1) (((List.getD x0 x3.toNat bl).2).1)).bind λr2=>cond (!r2) (some false) (cond (ba x3 (List.length x0)) (cond (aO ((((List.getD x0 x3.toNat bl).2).2).1) (0:Int)) (some false) (cond (aY 0 x3) (cond (ba x3 (List.length x0)) (let v3:Int:=W .i64 (x3-1);cond (ba v3 (List.length x0)) (cond (aY ((List.getD x0 x3.toNat bl).1) ((List.getD x0 v3.toNat bl).1)) (some false) (cond (ba x3 (List.length x0)) (let v4:Int:=W .i64 (x3-1);cond (ba v4 (List.length x0)) (cond (aO ((List.getD x0 x3.toNat bl).1) ((List.getD x0 v4.toNat bl).1)) (cond (ba x3 (List.length x0)) (let v5:Int:=W .i64 (x3-1);cond (ba v5 (List.length x0)) (cond (dj (((List.getD x0 x3.toNat bl).2).1) (((List.getD x0 v5.toNat bl).2).1)) (some false) (eE x0 (W .i64 (x3+1)))) (none)) (none)) (eE x0 (W .i64 (x3+1)))) (none)) (none))) (none)) (none)) (eE x0 (W .i64 (x3+1))))) (none))) (none)) (none)) (some true)
def BC.l2(N:Nat):Nat→BC.db
 |0,_,_=>none
 |n+1,x0,x3=>BC.gH N (BC.l2 N n) x0 x3
def BC.b(N:Nat)(jm:BC.db)(a0:au):Option (Bool):=
 jm a0 (0:Int)
def BC(N:Nat)(a0:au):Option (Bool):=BC.b N (BC.l2 N N) a0
abbrev s6.bS:=au→Int→Int→Int→Option (Int)
def s6.ei(N:Nat)(cF:s6.bS)(x0:au)(x1:Int)(x2:Int)(x7:Int):Option (Int):=
 cond (aY x7 (List.length x0:Int)) (cond (ba x7 (List.length x0)) (cond (aO ((List.getD x0 x7.toNat bl).1) x1) (cond (ba x7 (List.length x0)) (cond (aO (((List.getD x0 x7.toNat bl).2).1) x2) (cond (ba x7 (List.length x0)) (some ((((List.getD x0 x7.toNat bl).2).2).1)) (none)) (cF x0 x1 x2 (W .i64 (x7+1)))) (none)) (cF x0 x1 x2 (W .i64 (x7+1)))) (none)) (some (0:Int))
def s6.l4(N:Nat):Nat→s6.bS
 |0,_,_,_,_=>none
 |n+1,x0,x1,x2,x7=>s6.ei N (s6.l4 N n) x0 x1 x2 x7
def s6.b(N:Nat)(fE:s6.bS)(a0:au)(a1:Int)(a2:Int):Option (Int):=
 (BC N a0).bind λr1=>cond (!r1) (some (0:Int)) (fE a0 a1 a2 (0:Int))
def s6(N:Nat)(a0:au)(a1:Int)(a2:Int):Option (Int):=s6.b N (s6.l4 N N) a0 a1 a2
def F15(N:Nat):Option (Bool):=
 (F56 N).bind λr1=>(F31 N r1.1 r1.2 (2:Int)).bind λr2=>(sY N r1.1 r1.2 (1:Int)).bind λr3=>(sY N r1.1 r1.2 (9:Int)).bind λr4=>cond (aO r2.2 0) (cond (aO r2.1 15) (cond (aO r3.2 0) ((yZ N r3.1.2.2.2.1 (0:Int) (0:Int)).bind λr5=>cond (aO r5 6) ((s6 N r3.1.2.2.1 (5:Int) (1:Int)).bind λr6=>cond (aO r6 0) ((s6 N r3.1.2.2.1 (5:Int) (2:Int)).bind λr7=>cond (aO r7 5) ((s6 N r3.1.2.2.1 (2:Int) (0:Int)).bind λr8=>cond (aO r8 5) (some (aO r4.2 3)) (some false)) (some false)) (some false)) (some false)) (some false)) (some false)) (some false)
def F16(N:Nat)(a0:List (Int)):Option aM:=
 some (a0,((0:Int),()))
def F62(N:Nat)(a0:aM):Option ((Int)×aM):=
 cond (aY a0.2.1 (List.length a0.1:Int)) (cond (ba a0.2.1 (List.length a0.1)) (some (List.getD a0.1 a0.2.1.toNat (0:Int),(a0.1,((W .i64 (a0.2.1+1)),a0.2.2)))) (none)) (some ((0:Int),(a0.1,((W .i64 (a0.2.1+1)),a0.2.2))))
def pQ(N:Nat)(a0:aM)(a1:Int):Option ((Int)×aM):=
 (F62 N a0).bind λr1=>let v2:Int:=W .u64 a1;cond (aO v2 0) (none) (some ((W .i64 (rem r1.1 v2)),r1.2))
def QN(N:Nat)(a0:aM)(a1:Int):Option ((Bool)×aM):=
 (pQ N a0 a1).bind λr1=>some (aO r1.1 (W .i64 (a1-1)),r1.2)
def LD(N:Nat)(a0:aM):Option ((Int)×aM):=
 (F62 N a0).bind λr1=>cond (aO 8 0) (none) (let v2:Int:=rem r1.1 8;cond (aO v2 0) (cond (aY 1 0) (none) (some ((W .i64 (shr .u64 r1.1 1)),r1.2))) (cond (aO v2 1) (cond (aY 3 0) (none) (cond (aO 1000000000000 0) (none) (some ((W .i64 (rem (shr .u64 r1.1 3) 1000000000000)),r1.2)))) (cond (aO v2 2) (cond (aY 3 0) (none) (cond (aO 2 0) (none) (some ((W .i64 (rem (shr .u64 r1.1 3) 2)),r1.2)))) (cond (aY 3 0) (none) (cond (aO 5000 0) (none) (some ((W .i64 (rem (shr .u64 r1.1 3) 5000)),r1.2)))))))
abbrev uY.Yr:=aM→ae→ae→aK→Int→bI→Option (ae×aM)
abbrev uY.dT:=aM→ae→ae→aK→Int→Option (ae×aM)
def uY.WX(N:Nat)(dp:uY.dT)(x0:aM)(x2:ae)(x3:ae)(U3:aK)(x4:Int)(x5:bI):Option (ae×aM):=
 (QN N x0 (12:Int)).bind λxe=>cond (xe.1) ((LD N xe.2).bind λvA=>cond (aO 1000000001 0) (none) (let Ys:Int:=rem vA.1 1000000001;(LD N vA.2).bind λzb=>cond (aO 1000000001 0) (none) (let v18:Int:=rem zb.1 1000000001;cond (small (List.length U3+List.length ([(x5.1,(x5.2.1,(Ys,(v18,x5.2.2.2.2))))]))) (dp zb.2 x2 (c8,x3.2) (U3++([(x5.1,(x5.2.1,(Ys,(v18,x5.2.2.2.2))))])) (W .i64 (x4-1))) (none)))) (cond (small (List.length U3+List.length ([x5]))) (dp xe.2 x2 (c8,x3.2) (U3++([x5])) (W .i64 (x4-1))) (none))
def uY.j8(N:Nat)(dp:uY.dT)(x0:aM)(x2:ae)(x3:ae)(U3:aK)(x4:Int)(x5:bI):Option (ae×aM):=uY.WX N dp x0 x2 x3 U3 x4 x5
def uY.nO(N:Nat)(Ou:uY.Yr)(dp:uY.dT)(x0:aM)(x2:ae)(x3:ae)(U3:aK)(x4:Int):Option (ae×aM):=
 cond (aY 0 x4) ((pQ N x0 (3:Int)).bind λr4=>(pQ N r4.2 (300:Int)).bind λr5=>(pQ N r5.2 (12:Int)).bind λr7=>(pQ N r7.2 (6:Int)).bind λr8=>(QN N r8.2 (12:Int)).bind λr9=>cond (r9.1) ((LD N r9.2).bind λkz=>cond (aO 1000000000000 0) (none) (Ou kz.2 x2 x3 U3 x4 (r4.1,((W .i64 ((1:Int)+(rem kz.1 1000000000000))),(r7.1,(r8.1,())))))) (Ou r9.2 x2 x3 U3 x4 (r4.1,((W .i64 ((1:Int)+r5.1)),(r7.1,(r8.1,())))))) ((pQ N x0 (300:Int)).bind λBh=>(pQ N Bh.2 (5:Int)).bind λJG=>(pQ N JG.2 (3:Int)).bind λHe=>(pQ N He.2 (3:Int)).bind λBi=>(pQ N Bi.2 (20:Int)).bind λLg=>let v28:Int:=W .i64 ((1:Int)+Lg.1);(pQ N Lg.2 (100:Int)).bind λEa=>(QN N Ea.2 (15:Int)).bind λRa=>cond (Ra.1) ((LD N Ra.2).bind λHf=>some ((U3,(Hf.1,(JG.1,(He.1,(Bi.1,(v28,(Ea.1,x3.2.2.2.2.2.2.2))))))),Hf.2)) (some ((U3,(Bh.1,(JG.1,(He.1,(Bi.1,(v28,(Ea.1,x3.2.2.2.2.2.2.2))))))),Ra.2)))
def uY.l3(N:Nat):Nat→uY.dT
 |0,_,_,_,_,_=>none
 |n+1,x0,x2,x3,U3,x4=>uY.nO N (uY.j8 N (uY.l3 N n)) (uY.l3 N n) x0 x2 x3 U3 x4
def uY.b(N:Nat)(oD:uY.dT)(a0:aM):Option (ae×aM):=
 (pQ N a0 (4:Int)).bind λr1=>oD r1.2 (c8,fa) (c8,fa) c8 (W .i64 ((1:Int)+r1.1))
def uY(N:Nat)(a0:aM):Option (ae×aM):=uY.b N (uY.l3 N N) a0
def Uh(N:Nat)(a0:aM)(a1:ae)(a2:Int):Option (gO×aM):=
 cond (ba a2 (List.length a1.1)) ((pQ N a0 (61:Int)).bind λr1=>(QN N r1.2 (20:Int)).bind λr6=>cond (r6.1) ((LD N r6.2).bind λr7=>cond (aO 1000000000000 0) (none) (some (((9:Int),((0:Int),((0:Int),(a2,((0:Int),((0:Int),((0:Int),((W .i64 ((1:Int)+(rem r7.1 1000000000000))),())))))))),r7.2))) (some (((9:Int),((0:Int),((0:Int),(a2,((0:Int),((0:Int),((0:Int),((mx 1 (mn 1000000000000 (W .i64 ((W .i64 ((((List.getD a1.1 a2.toNat aV).2).1)+r1.1))-30)))),())))))))),r6.2))) (none)
def Xn(N:Nat)(a0:aM)(a1:ae):Option (gO×aM):=
 (pQ N a0 (List.length a1.1:Int)).bind λr1=>(pQ N r1.2 (7:Int)).bind λr2=>let v3:Int:=W .i64 ((1:Int)+r2.1);(pQ N r2.2 (2:Int)).bind λr4=>let v5:Int:=W .i64 ((1:Int)+r4.1);(pQ N r4.2 (30:Int)).bind λr6=>cond (ba r1.1 (List.length a1.1)) ((pQ N r6.2 (21:Int)).bind λr8=>(QN N r8.2 (30:Int)).bind λqx=>cond (qx.1) ((LD N qx.2).bind λxe=>cond (aO 1000000000 0) (none) ((LD N xe.2).bind λzb=>cond (aO 1000000000000 0) (none) (some (((7:Int),((0:Int),(v3,(r1.1,(v5,((0:Int),((W .i64 ((1:Int)+(rem xe.1 1000000000))),((W .i64 ((1:Int)+(rem zb.1 1000000000000))),())))))))),zb.2)))) (some (((7:Int),((0:Int),(v3,(r1.1,(v5,((0:Int),((W .i64 ((1:Int)+r6.1)),((mx 1 (mn 1000000000000 (W .i64 ((W .i64 ((((List.getD a1.1 r1.1.toNat aV).2).1)+r8.1))-10)))),())))))))),qx.2))) (none)
def Ui(N:Nat)(a0:aM)(a1:ae):Option (gO×aM):=
 (pQ N a0 (4:Int)).bind λr1=>let v2:Int:=W .i64 ((1:Int)+r1.1);(pQ N r1.2 (7:Int)).bind λr3=>let v4:Int:=W .i64 ((1:Int)+r3.1);(pQ N r3.2 (List.length a1.1:Int)).bind λr5=>(pQ N r5.2 (36:Int)).bind λr6=>let v7:Int:=W .i64 ((1:Int)+r6.1);cond (aO v7 1) (some ((v7,(v2,fa)),r6.2)) (cond (aO v7 11) (some ((v7,(v2,fa)),r6.2)) (cond (aO v7 12) (some ((v7,(v2,fa)),r6.2)) (cond (aO v7 13) (some ((v7,(v2,fa)),r6.2)) (cond (aO v7 2) ((pQ N r6.2 (2:Int)).bind λr8=>some ((v7,(v2,(v4,((0:Int),((W .i64 ((1:Int)+r8.1)),bl))))),r8.2)) (cond (aO v7 3) ((LD N r6.2).bind λkz=>some ((v7,((0:Int),(v4,((0:Int),((0:Int),((0:Int),((mx kz.1 1),((0:Int),())))))))),kz.2)) (cond (aO v7 4) ((LD N r6.2).bind λnW=>some ((v7,((0:Int),(v4,((0:Int),((0:Int),((0:Int),((mx nW.1 1),((0:Int),())))))))),nW.2)) (cond (aO v7 5) ((LD N r6.2).bind λxe=>some ((v7,(v2,((0:Int),((0:Int),((0:Int),((0:Int),((mx xe.1 1),((0:Int),())))))))),xe.2)) (cond (aO v7 22) ((LD N r6.2).bind λxQ=>some ((v7,(v2,((0:Int),((0:Int),((0:Int),((0:Int),((mx xQ.1 1),((0:Int),())))))))),xQ.2)) (cond (aO v7 6) ((LD N r6.2).bind λtR=>cond (aO 1000000000001 0) (none) (some ((v7,((0:Int),(v4,((0:Int),((0:Int),((0:Int),((rem tR.1 1000000000001),((0:Int),())))))))),tR.2))) (cond (aO v7 8) ((pQ N r6.2 (40:Int)).bind λLh=>some ((v7,((0:Int),(v4,((0:Int),((0:Int),((W .i64 ((1:Int)+Lh.1)),cD)))))),Lh.2)) (cond (aO v7 9) ((Uh N r6.2 a1 r5.1).bind λLi=>some (Li.1,Li.2)) (cond (aO v7 10) ((pQ N r6.2 (3:Int)).bind λBh=>some ((v7,((0:Int),((0:Int),((0:Int),((0:Int),((0:Int),((W .i64 ((1:Int)+Bh.1)),((0:Int),())))))))),Bh.2)) (cond (aO v7 14) (some ((v7,(v2,(v4,mI))),r6.2)) (cond (aO v7 15) (some ((v7,Lw),r6.2)) (cond (aO v7 16) (some ((v7,Lw),r6.2)) (cond (aO v7 18) (some ((v7,Lw),r6.2)) (cond (aO v7 20) (some ((v7,Lw),r6.2)) (cond (aO v7 21) (some ((v7,Lw),r6.2)) (cond (aO v7 17) ((pQ N r6.2 (60:Int)).bind λHe=>(pQ N He.2 (20:Int)).bind λLg=>cond (ba r5.1 (List.length a1.1)) (some ((v7,((0:Int),(v4,((0:Int),((0:Int),((W .i64 ((1:Int)+He.1)),((W .i64 ((1:Int)+Lg.1)),(((List.getD a1.1 r5.1.toNat aV).2).1,())))))))),Lg.2)) (none)) (cond (aO v7 19) ((pQ N r6.2 (60:Int)).bind λEa=>(pQ N Ea.2 (80:Int)).bind λHf=>some ((v7,(v2,((0:Int),((0:Int),((0:Int),((W .i64 ((1:Int)+Ea.1)),((0:Int),((W .i64 (Hf.1-60)),())))))))),Hf.2)) ((Xn N r6.2 a1).bind λr33=>some (r33.1,r33.2))))))))))))))))))))))
abbrev fQ.eO:=aM→cT→Int→Option (cT×aM)
abbrev fQ.mv:=aM→cT→Int→Option (cT×aM)
abbrev fQ.dT:=aM→cT→Int→Option (cT×aM)
def fQ.kP(N:Nat)(fH:fQ.eO)(x0:aM)(x5:cT)(x8:Int):Option (cT×aM):=
 cond (dj x8 7) ((pQ N x0 (3000:Int)).bind λvA=>let Ys:Int:=W .i64 ((200:Int)+vA.1);(pQ N vA.2 (200:Int)).bind λzb=>let v18:Int:=W .i64 ((20:Int)+zb.1);cond (small (List.length x5+List.length ([((3:Int),((0:Int),(x8,((0:Int),((0:Int),((0:Int),(Ys,((0:Int),())))))))),((6:Int),((0:Int),(x8,((0:Int),((0:Int),((0:Int),(v18,((0:Int),()))))))))]))) (fH zb.2 (x5++([((3:Int),((0:Int),(x8,((0:Int),((0:Int),((0:Int),(Ys,((0:Int),())))))))),((6:Int),((0:Int),(x8,((0:Int),((0:Int),((0:Int),(v18,((0:Int),()))))))))])) (W .i64 (x8+1))) (none)) (some (x5,x0))
def fQ.lj(N:Nat):Nat→fQ.eO
 |0,_,_,_=>none
 |n+1,x0,x5,x8=>fQ.kP N (fQ.lj N n) x0 x5 x8
def fQ.xA(N:Nat)(rM:fQ.eO)(rN:fQ.mv)(x0:aM)(x5:cT)(x7:Int):Option (cT×aM):=
 cond (dj x7 7) ((pQ N x0 (2:Int)).bind λkz=>let v11:Int:=W .i64 ((1:Int)+kz.1);cond (small (List.length x5+List.length ([((2:Int),(v11,(x7,((0:Int),((2:Int),bl)))))]))) (rN kz.2 (x5++([((2:Int),(v11,(x7,((0:Int),((2:Int),bl)))))])) (W .i64 (x7+1))) (none)) (rM x0 x5 (1:Int))
def fQ.l9(N:Nat):Nat→fQ.mv
 |0,_,_,_=>none
 |n+1,x0,x5,x7=>fQ.xA N (fQ.lj N N) (fQ.l9 N n) x0 x5 x7
def fQ.nO(N:Nat)(ze:fQ.mv)(dp:fQ.dT)(x0:aM)(x5:cT)(x6:Int):Option (cT×aM):=
 cond (dj x6 4) (cond (small (List.length x5+List.length ([((1:Int),(x6,fa)),((2:Int),(x6,(x6,((0:Int),((1:Int),bl)))))]))) (let v2:List ((Int)×((Int)×((Int)×((Int)×((Int)×((Int)×((Int)×((Int)×(Unit))))))))):=x5++([((1:Int),(x6,fa)),((2:Int),(x6,(x6,((0:Int),((1:Int),bl)))))]);(QN N x0 (5:Int)).bind λr3=>cond (!r3.1) ((pQ N r3.2 (400:Int)).bind λr4=>let v5:Int:=W .i64 ((1:Int)+r4.1);cond (small (List.length v2+List.length ([((5:Int),(x6,((0:Int),((0:Int),((0:Int),((0:Int),(v5,((0:Int),()))))))))]))) (dp r4.2 (v2++([((5:Int),(x6,((0:Int),((0:Int),((0:Int),((0:Int),(v5,((0:Int),()))))))))])) (W .i64 (x6+1))) (none)) (dp r3.2 v2 (W .i64 (x6+1)))) (none)) (ze x0 x5 (5:Int))
def fQ.l3(N:Nat):Nat→fQ.dT
 |0,_,_,_=>none
 |n+1,x0,x5,x6=>fQ.nO N (fQ.l9 N N) (fQ.l3 N n) x0 x5 x6
def fQ.b(N:Nat)(oD:fQ.dT)(a0:aM)(a1:ae):Option (cT×aM):=
 oD a0 ([]) (1:Int)
def fQ(N:Nat)(a0:aM)(a1:ae):Option (cT×aM):=fQ.b N (fQ.l3 N N) a0 a1
abbrev pK.dT:=aM→ae→cT→Int→Option (cT×aM)
def pK.nO(N:Nat)(dp:pK.dT)(x0:aM)(x4:ae)(x7:cT)(x8:Int):Option (cT×aM):=
 cond (aY 0 x8) ((pQ N x0 (8:Int)).bind λr5=>cond (aO r5.1 0) ((Ui N r5.2 x4).bind λr6=>cond (small (List.length x7+List.length ([r6.1]))) (dp r6.2 x4 (x7++([r6.1])) (W .i64 (x8-1))) (none)) (cond (aO r5.1 1) ((pQ N r5.2 (List.length x4.1:Int)).bind λr9=>(Uh N r9.2 x4 r9.1).bind λkz=>cond (small (List.length x7+List.length ([kz.1]))) (dp kz.2 x4 (x7++([kz.1])) (W .i64 (x8-1))) (none)) ((Xn N r5.2 x4).bind λqx=>cond (small (List.length x7+List.length ([qx.1]))) (dp qx.2 x4 (x7++([qx.1])) (W .i64 (x8-1))) (none)))) (some (x7,x0))
def pK.l3(N:Nat):Nat→pK.dT
 |0,_,_,_,_=>none
 |n+1,x0,x4,x7,x8=>pK.nO N (pK.l3 N n) x0 x4 x7 x8
def pK.b(N:Nat)(oD:pK.dT)(a0:aM)(a1:ae)(a2:Int):Option (cT×aM):=
 (fQ N a0 a1).bind λr1=>(pQ N r1.2 (W .i64 (a2+1))).bind λr3=>oD r3.2 a1 r1.1 r3.1
def pK(N:Nat)(a0:aM)(a1:ae)(a2:Int):Option (cT×aM):=pK.b N (pK.l3 N N) a0 a1 a2
def HD(N:Nat)(a0:Int)(a1:Int)(a2:Int):Option (Bool):=
 cond (dj a1 a0) (some (dj a0 a2)) (some false)
abbrev lZ.bS:=ae→Int→Option (Bool)
def lZ.ei(N:Nat)(cF:lZ.bS)(x1:ae)(x3:Int):Option (Bool):=
 cond (aY x3 (List.length x1.1:Int)) (cond (ba x3 (List.length x1.1)) ((HD N ((List.getD x1.1 x3.toNat aV).1) (0:Int) (3:Int)).bind λr2=>cond (!r2) (some false) ((HD N (((List.getD x1.1 x3.toNat aV).2).1) (1:Int) (1000000000000:Int)).bind λr3=>cond (!r3) (some false) ((HD N ((((List.getD x1.1 x3.toNat aV).2).2).1) (0:Int) (1000000000:Int)).bind λr4=>cond (!r4) (some false) ((HD N (((((List.getD x1.1 x3.toNat aV).2).2).2).1) (0:Int) (1000000000:Int)).bind λr5=>cond (!r5) (some false) (cF x1 (W .i64 (x3+1))))))) (none)) (cond (dj 0 x1.2.1) ((HD N x1.2.2.1 (0:Int) (4:Int)).bind λr7=>cond (r7) ((HD N x1.2.2.2.1 (0:Int) (1000000:Int)).bind λr8=>cond (r8) ((HD N x1.2.2.2.2.1 (0:Int) (1000000:Int)).bind λr9=>cond (r9) ((HD N x1.2.2.2.2.2.1 (1:Int) (4611686018427387904:Int)).bind λkz=>cond (kz) (some (dj 0 x1.2.2.2.2.2.2.1)) (some false)) (some false)) (some false)) (some false)) (some false))
def lZ.l4(N:Nat):Nat→lZ.bS
 |0,_,_=>none
 |n+1,x1,x3=>lZ.ei N (lZ.l4 N n) x1 x3
def lZ.b(N:Nat)(fE:lZ.bS)(a0:ae):Option (Bool):=
 cond (aY (List.length a0.1:Int) 1) (some false) (cond (aY 6 (List.length a0.1:Int)) (some false) (fE a0 (0:Int)))
def lZ(N:Nat)(a0:ae):Option (Bool):=lZ.b N (lZ.l4 N N) a0
abbrev ij.fv:=ae→an→an→(List (Int))→Int→Option (an×(Int))
abbrev ij.Yt:=ae→an→an→(List (Int))→Option (an×(Int))
def ij.q4(N:Nat)(eN:ij.fv)(x1:ae)(x2:an)(x4:an)(x4l:List (Int))(x5:Int):Option (an×(Int)):=
 cond (aY x5 (List.length x1.1:Int)) (cond (ba x5 (List.length x1.1)) (cond (small (List.length x4l+List.length ([((List.getD x1.1 x5.toNat aV).2).1]))) (eN x1 x2 (x4.1,(x4.2.1,(x4.2.2.1,(x4.2.2.2.1,(dC,x4.2.2.2.2.2))))) (x4l++([((List.getD x1.1 x5.toNat aV).2).1])) (W .i64 (x5+1))) (none)) (none)) (some ((x4.1,(x4.2.1,(x4.2.2.1,(x4.2.2.2.1,(x4l,x4.2.2.2.2.2))))),(0:Int)))
def ij.l7(N:Nat):Nat→ij.fv
 |0,_,_,_,_,_=>none
 |n+1,x1,x2,x4,x4l,x5=>ij.q4 N (ij.l7 N n) x1 x2 x4 x4l x5
def ij.TJ(N:Nat)(u6:ij.fv)(x1:ae)(x2:an)(x4:an)(x4l:List (Int)):Option (an×(Int)):=
 u6 x1 x2 x4 x4l (0:Int)
def ij.j6(N:Nat)(x1:ae)(x2:an)(x4:an)(x4l:List (Int)):Option (an×(Int)):=ij.TJ N (ij.l7 N N) x1 x2 x4 x4l
def ij.b(N:Nat)(Lj:ij.Yt)(a0:ae):Option (an×(Int)):=
 (lZ N a0).bind λr1=>cond (!r1) (some ((ck,(c8,(bG,(bG,(dC,(dQ,())))))),(1:Int))) (cond (!aO a0.2.1 0) (Lj a0 (ck,(c8,(bG,(bG,(dC,(dQ,())))))) (ck,(c8,([((1:Int),((0:Int),((W .i64 (0-a0.2.1)),()))),((3:Int),((0:Int),(a0.2.1,())))],(bG,(dC,(dQ,())))))) dC) (Lj a0 (ck,(c8,(bG,(bG,(dC,(dQ,())))))) (ck,(c8,(bG,(bG,(dC,(dQ,())))))) dC))
def ij(N:Nat)(a0:ae):Option (an×(Int)):=ij.b N (ij.j6 N) a0
def Yb(N:Nat)(a0:ae):Option (aQ×(Int)):=
 (ij N a0).bind λr1=>cond (!aO r1.2 0) (some (((0:Int),((0:Int),((ck,(c8,(bG,(bG,(dC,(dQ,())))))),(((0:Int),((0:Int),((0:Int),((0:Int),(c8,(([]:List ((Int)×((List ((Int)×((Int)×(Unit))))×((Int)×((Int)×((Int)×((Int)×(Unit)))))))),(c8,(dC,(ck,(ck,())))))))))),(((0:Int),((0:Int),(De,((0:Int),())))),()))))),r1.2)) (some (((0:Int),((1:Int),(r1.1,(((0:Int),((0:Int),((0:Int),((0:Int),(c8,(([]:List ((Int)×((List ((Int)×((Int)×(Unit))))×((Int)×((Int)×((Int)×((Int)×(Unit)))))))),(c8,(dC,(ck,(ck,())))))))))),(((0:Int),((0:Int),(De,((0:Int),())))),()))))),(0:Int)))
abbrev nD.dT:=aM→ae→cT→Int→Option (cT×aM)
def nD.nO(N:Nat)(dp:nD.dT)(x0:aM)(x3:ae)(x5:cT)(x6:Int):Option (cT×aM):=
 cond (aY 0 x6) ((QN N x0 (2:Int)).bind λr3=>cond (r3.1) ((pQ N r3.2 (List.length x3.1:Int)).bind λr4=>(Uh N r4.2 x3 r4.1).bind λr5=>cond (small (List.length x5+List.length ([r5.1]))) (dp r5.2 x3 (x5++([r5.1])) (W .i64 (x6-1))) (none)) ((Ui N r3.2 x3).bind λr8=>cond (small (List.length x5+List.length ([r8.1]))) (dp r8.2 x3 (x5++([r8.1])) (W .i64 (x6-1))) (none))) (some (x5,x0))
def nD.l3(N:Nat):Nat→nD.dT
 |0,_,_,_,_=>none
 |n+1,x0,x3,x5,x6=>nD.nO N (nD.l3 N n) x0 x3 x5 x6
def nD.b(N:Nat)(oD:nD.dT)(a0:aM)(a1:ae):Option (cT×aM):=
 (pQ N a0 (3:Int)).bind λr1=>oD r1.2 a1 ([]) r1.1
def nD(N:Nat)(a0:aM)(a1:ae):Option (cT×aM):=nD.b N (nD.l3 N N) a0 a1
def ah4(N:Nat)(a0:Int):Option (Bool):=
 cond (dj 1 a0) (some (dj a0 22)) (some false)
def aaJ(N:Nat)(a0:Int):Option (ByteArray):=
 cond (aO a0 1) (some (strOf [77])) (cond (aO a0 11) (some (strOf [77])) (cond (aO a0 12) (some (strOf [77])) (cond (aO a0 13) (some (strOf [77])) (cond (aO a0 2) (some (strOf [77,65,83])) (cond (aO a0 3) (some (strOf [65,81])) (cond (aO a0 4) (some (strOf [65,81])) (cond (aO a0 6) (some (strOf [65,81])) (cond (aO a0 5) (some (strOf [77,81])) (cond (aO a0 22) (some (strOf [77,81])) (cond (aO a0 7) (some (strOf [65,73,83,81,80])) (cond (aO a0 8) (some (strOf [65,68])) (cond (aO a0 9) (some (strOf [73,80])) (cond (aO a0 10) (some (strOf [81])) (cond (aO a0 14) (some (strOf [77,65])) (cond (aO a0 17) (some (strOf [65,68,81,80])) (cond (aO a0 19) (some (strOf [77,68,80])) (some (strOf []))))))))))))))))))
def ah2(N:Nat)(a0:Int):Option ((Int)×(Int)):=
 cond (aO a0 6) (some ((0:Int),(1000000000000:Int))) (cond (aO a0 7) (some ((1:Int),(1000000000:Int))) (cond (aO a0 17) (some ((1:Int),(1000000000:Int))) (cond (aO a0 10) (some ((1:Int),(1000000:Int))) (some ((1:Int),(9223372036854775807:Int))))))
def ah3(N:Nat)(a0:Int):Option ((Int)×(Int)):=
 cond (aO a0 19) (some ((-1152921504606846976:Int),(1152921504606846976:Int))) (some ((1:Int),(1000000000000:Int)))
def aaK(N:Nat)(a0:Int)(a1:Int):Option ((Int)×(Int)):=
 cond (aO a1 77) (some ((1:Int),(12:Int))) (cond (aO a1 65) (some ((1:Int),(24:Int))) (cond (aO a1 73) (some ((0:Int),(5:Int))) (cond (aO a1 83) (some ((1:Int),(2:Int))) (cond (aO a1 68) (some ((1:Int),(1099511627776:Int))) (cond (aO a1 81) ((ah2 N a0).bind λr1=>some (r1.1,r1.2)) ((ah3 N a0).bind λr2=>some (r2.1,r2.2)))))))
def aaL(N:Nat)(a0:gO)(a1:Int):Option (Int):=
 cond (aO a1 77) (some a0.2.1) (cond (aO a1 65) (some a0.2.2.1) (cond (aO a1 73) (some a0.2.2.2.1) (cond (aO a1 83) (some a0.2.2.2.2.1) (cond (aO a1 68) (some a0.2.2.2.2.2.1) (cond (aO a1 81) (some a0.2.2.2.2.2.2.1) (some a0.2.2.2.2.2.2.2.1))))))
def aaM(N:Nat)(a0:gO)(a1:Int)(a2:Int):Option gO:=
 cond (aO a1 77) (some (a0.1,(a2,a0.2.2))) (cond (aO a1 65) (some (a0.1,(a0.2.1,(a2,a0.2.2.2)))) (cond (aO a1 73) (some (a0.1,(a0.2.1,(a0.2.2.1,(a2,a0.2.2.2.2))))) (cond (aO a1 83) (some (a0.1,(a0.2.1,(a0.2.2.1,(a0.2.2.2.1,(a2,a0.2.2.2.2.2)))))) (cond (aO a1 68) (some (a0.1,(a0.2.1,(a0.2.2.1,(a0.2.2.2.1,(a0.2.2.2.2.1,(a2,a0.2.2.2.2.2.2))))))) (cond (aO a1 81) (some (a0.1,(a0.2.1,(a0.2.2.1,(a0.2.2.2.1,(a0.2.2.2.2.1,(a0.2.2.2.2.2.1,(a2,a0.2.2.2.2.2.2.2)))))))) (some (a0.1,(a0.2.1,(a0.2.2.1,(a0.2.2.2.1,(a0.2.2.2.2.1,(a0.2.2.2.2.2.1,(a0.2.2.2.2.2.2.1,(a2,a0.2.2.2.2.2.2.2.2))))))))))))))
abbrev rr.jD:=gO→ByteArray→gO→Int→Option (Bool)
def rr.uw(N:Nat)(kA:rr.jD)(x1:gO)(x3:ByteArray)(x4:gO)(x5:Int):Option (Bool):=
 cond (aY x5 (ByteArray.size x3:Int)) (cond (ba x5 (ByteArray.size x3)) ((aaK N x1.1 ((x3.data.getD x5.toNat 0).toNat:Int)).bind λr4=>cond (ba x5 (ByteArray.size x3)) ((aaL N x1 ((x3.data.getD x5.toNat 0).toNat:Int)).bind λr5=>cond (aY r5 r4.1) (some false) (cond (aY r4.2 r5) (some false) (cond (ba x5 (ByteArray.size x3)) ((aaM N x4 ((x3.data.getD x5.toNat 0).toNat:Int) r5).bind λr6=>kA x1 x3 r6 (W .i64 (x5+1))) (none)))) (none)) (none)) (some (ql (.pair (.int .i64) (.pair (.int .i64) (.pair (.int .i64) (.pair (.int .i64) (.pair (.int .i64) (.pair (.int .i64) (.pair (.int .i64) (.pair (.int .i64) .unit)))))))) x4 x1))
def rr.l6(N:Nat):Nat→rr.jD
 |0,_,_,_,_=>none
 |n+1,x1,x3,x4,x5=>rr.uw N (rr.l6 N n) x1 x3 x4 x5
def rr.b(N:Nat)(xd:rr.jD)(a0:gO):Option (Bool):=
 (ah4 N a0.1).bind λr1=>cond (!r1) (some false) ((aaJ N a0.1).bind λr2=>xd a0 r2 (a0.1,Lw) (0:Int))
def rr(N:Nat)(a0:gO):Option (Bool):=rr.b N (rr.l6 N N) a0
abbrev Bd.db:=aE→Int→Option (Bool)
def Bd.gH(N:Nat)(eE:Bd.db)(x0:aE)(x3:Int):Option (Bool):=
 cond (aY x3 (List.length x0:Int)) (cond (ba x3 (List.length x0)) (cond (aY ((List.getD x0 x3.toNat cD).1) (1:Int)) (some false) (cond (ba x3 (List.length x0)) (cond (aY 12 ((List.getD x0 x3.toNat cD).1)) (some false) (cond (ba x3 (List.length x0)) (cond (aY (((List.getD x0 x3.toNat cD).2).1) (1:Int)) (some false) (cond (ba x3 (List.length x0)) (cond (aY 4 (((List.getD x0 x3.toNat cD).2).1)) (some false) (cond (aY 0 x3) (cond (ba x3 (List.length x0)) (let v2:Int:=W .i64 (x3-1);cond (ba v2 (List.length x0)) (cond (dj ((List.getD x0 x3.toNat cD).1) ((List.getD x0 v2.toNat cD).1)) (some false) (eE x0 (W .i64 (x3+1)))) (none)) (none)) (eE x0 (W .i64 (x3+1))))) (none))) (none))) (none))) (none)) (some true)
def Bd.l2(N:Nat):Nat→Bd.db
 |0,_,_=>none
 |n+1,x0,x3=>Bd.gH N (Bd.l2 N n) x0 x3
def Bd.b(N:Nat)(jm:Bd.db)(a0:aE):Option (Bool):=
 jm a0 (0:Int)
def Bd(N:Nat)(a0:aE):Option (Bool):=Bd.b N (Bd.l2 N N) a0
abbrev zj.db:=aE→Int→Int→Option (Int)
def zj.gH(N:Nat)(eE:zj.db)(x0:aE)(x1:Int)(x5:Int):Option (Int):=
 cond (aY x5 (List.length x0:Int)) (cond (ba x5 (List.length x0)) (cond (aO ((List.getD x0 x5.toNat cD).1) x1) (cond (ba x5 (List.length x0)) (some (((List.getD x0 x5.toNat cD).2).1)) (none)) (eE x0 x1 (W .i64 (x5+1)))) (none)) (some (0:Int))
def zj.l2(N:Nat):Nat→zj.db
 |0,_,_,_=>none
 |n+1,x0,x1,x5=>zj.gH N (zj.l2 N n) x0 x1 x5
def zj.b(N:Nat)(jm:zj.db)(a0:aE)(a1:Int):Option (Int):=
 jm a0 a1 (0:Int)
def zj(N:Nat)(a0:aE)(a1:Int):Option (Int):=zj.b N (zj.l2 N N) a0 a1
abbrev ig.Rb:=aE→Int→aE→Int→Option (aE×(Int))
abbrev ig.fv:=aE→Int→aE→Int→Option (aE×(Int))
def ig.Nl(N:Nat)(x0:aE)(x1:Int)(x6:aE)(x7:Int):Option (aE×(Int)):=
 cond (jY 0 x7 (List.length x0:Int) (List.length x0:Int)) (let v6:List ((Int)×((Int)×(Unit))):=List.drop (0:Int).toNat (List.take x7.toNat x0);cond (small (List.length x6+List.length v6)) (let v7:List ((Int)×((Int)×(Unit))):=x6++v6;cond (small (List.length v7+List.length ([(x1,((1:Int),()))]))) (let v8:List ((Int)×((Int)×(Unit))):=v7++([(x1,((1:Int),()))]);cond (jY x7 (List.length x0:Int) (List.length x0:Int) (List.length x0:Int)) (let v9:List ((Int)×((Int)×(Unit))):=List.drop x7.toNat (List.take (List.length x0:Int).toNat x0);cond (small (List.length v8+List.length v9)) (some ((v8++v9),(0:Int))) (none)) (none)) (none)) (none)) (none)
def ig.j9(N:Nat)(x0:aE)(x1:Int)(x6:aE)(x7:Int):Option (aE×(Int)):=ig.Nl N x0 x1 x6 x7
def ig.q4(N:Nat)(GN:ig.Rb)(eN:ig.fv)(x0:aE)(x1:Int)(x6:aE)(x7:Int):Option (aE×(Int)):=
 cond (aY x7 (List.length x0:Int)) (cond (ba x7 (List.length x0)) (cond (aY ((List.getD x0 x7.toNat cD).1) x1) (eN x0 x1 x6 (W .i64 (x7+1))) (GN x0 x1 x6 x7)) (none)) (GN x0 x1 x6 x7)
def ig.l7(N:Nat):Nat→ig.fv
 |0,_,_,_,_=>none
 |n+1,x0,x1,x6,x7=>ig.q4 N (ig.j9 N) (ig.l7 N n) x0 x1 x6 x7
def ig.b(N:Nat)(u6:ig.fv)(a0:aE)(a1:Int):Option (aE×(Int)):=
 (Bd N a0).bind λr1=>cond (!r1) (some ([],(1:Int))) (cond (aY a1 1) (some ([],(1:Int))) (cond (aY 12 a1) (some ([],(1:Int))) ((zj N a0 a1).bind λr2=>cond (!aO r2 0) (some ([],(4:Int))) (u6 a0 a1 ([]) (0:Int)))))
def ig(N:Nat)(a0:aE)(a1:Int):Option (aE×(Int)):=ig.b N (ig.l7 N N) a0 a1
def fy(N:Nat)(a0:Int):Option da:=
 some (a0,cD)
abbrev eD.gQ:=aK→Int→bI→Int→Option (Bool)
abbrev eD.Yj:=aK→Int→bI→Option (Bool)
abbrev eD.db:=aK→Int→Option (Bool)
def eD.yd(N:Nat)(eE:eD.db)(e7:eD.gQ)(x0:aK)(x3:Int)(x4:bI)(x5:Int):Option (Bool):=
 cond (aY x5 x3) (cond (aO x4.2.2.1 1) (cond (ba x5 (List.length x0)) (cond (aO ((((List.getD x0 x5.toNat aV).2).2).1) (1:Int)) (cond (ba x5 (List.length x0)) (cond (aO (((List.getD x0 x5.toNat aV).2).1) x4.2.1) (some false) (e7 x0 x3 x4 (W .i64 (x5+1)))) (none)) (e7 x0 x3 x4 (W .i64 (x5+1)))) (none)) (e7 x0 x3 x4 (W .i64 (x5+1)))) (eE x0 (W .i64 (x3+1)))
def eD.l8(N:Nat)(eE:eD.db):Nat→eD.gQ
 |0,_,_,_,_=>none
 |n+1,x0,x3,x4,x5=>eD.yd N eE (eD.l8 N eE n) x0 x3 x4 x5
def eD.Vg(N:Nat)(B8:eD.gQ)(eE:eD.db)(x0:aK)(x3:Int)(x4:bI):Option (Bool):=
 B8 x0 x3 x4 (0:Int)
def eD.j7(N:Nat)(eE:eD.db)(x0:aK)(x3:Int)(x4:bI):Option (Bool):=eD.Vg N (eD.l8 N eE N) eE x0 x3 x4
def eD.gH(N:Nat)(HX:eD.Yj)(eE:eD.db)(x0:aK)(x3:Int):Option (Bool):=
 cond (aY x3 (List.length x0:Int)) (cond (ba x3 (List.length x0)) (cond (aY ((List.getD x0 x3.toNat aV).1) (1:Int)) (some false) (cond (aY 24 ((List.getD x0 x3.toNat aV).1)) (some false) (cond (aY (((List.getD x0 x3.toNat aV).2).1) (1:Int)) (some false) (cond (aY 12 (((List.getD x0 x3.toNat aV).2).1)) (some false) (cond (!aO ((((List.getD x0 x3.toNat aV).2).2).1) (1:Int)) (cond (!aO ((((List.getD x0 x3.toNat aV).2).2).1) (2:Int)) (some false) (cond (aY (((((List.getD x0 x3.toNat aV).2).2).2).1) (0:Int)) (some false) (cond (aY 1000000000000 (((((List.getD x0 x3.toNat aV).2).2).2).1)) (some false) (cond (aY 0 x3) (let v2:Int:=W .i64 (x3-1);cond (ba v2 (List.length x0)) (cond (dj ((List.getD x0 x3.toNat aV).1) ((List.getD x0 v2.toNat aV).1)) (some false) (HX x0 x3 (List.getD x0 x3.toNat aV))) (none)) (HX x0 x3 (List.getD x0 x3.toNat aV)))))) (cond (aY (((((List.getD x0 x3.toNat aV).2).2).2).1) (0:Int)) (some false) (cond (aY 1000000000000 (((((List.getD x0 x3.toNat aV).2).2).2).1)) (some false) (cond (aY 0 x3) (let v9:Int:=W .i64 (x3-1);cond (ba v9 (List.length x0)) (cond (dj ((List.getD x0 x3.toNat aV).1) ((List.getD x0 v9.toNat aV).1)) (some false) (HX x0 x3 (List.getD x0 x3.toNat aV))) (none)) (HX x0 x3 (List.getD x0 x3.toNat aV)))))))))) (none)) (some true)
def eD.l2(N:Nat):Nat→eD.db
 |0,_,_=>none
 |n+1,x0,x3=>eD.gH N (eD.j7 N (eD.l2 N n)) (eD.l2 N n) x0 x3
def eD.b(N:Nat)(jm:eD.db)(a0:aK):Option (Bool):=
 jm a0 (0:Int)
def eD(N:Nat)(a0:aK):Option (Bool):=eD.b N (eD.l2 N N) a0
abbrev oh.bS:=aE→aK→Int→Option (Bool)
def oh.ei(N:Nat)(cF:oh.bS)(x0:aE)(x1:aK)(x5:Int):Option (Bool):=
 cond (aY x5 (List.length x1:Int)) (cond (ba x5 (List.length x1)) ((zj N x0 (((List.getD x1 x5.toNat aV).2).1)).bind λr4=>cond (aO r4 0) (some false) (cF x0 x1 (W .i64 (x5+1)))) (none)) (some true)
def oh.l4(N:Nat):Nat→oh.bS
 |0,_,_,_=>none
 |n+1,x0,x1,x5=>oh.ei N (oh.l4 N n) x0 x1 x5
def oh.b(N:Nat)(fE:oh.bS)(a0:aE)(a1:aK):Option (Bool):=
 (Bd N a0).bind λr1=>cond (!r1) (some false) ((eD N a1).bind λr2=>cond (!r2) (some false) (fE a0 a1 (0:Int)))
def oh(N:Nat)(a0:aE)(a1:aK):Option (Bool):=oh.b N (oh.l4 N N) a0 a1
abbrev nQ.db:=aK→Int→bI→Int→Option (bI×(Bool))
def nQ.gH(N:Nat)(eE:nQ.db)(x0:aK)(x1:Int)(x4:bI)(x6:Int):Option (bI×(Bool)):=
 cond (aY x6 (List.length x0:Int)) (cond (ba x6 (List.length x0)) (cond (aO ((List.getD x0 x6.toNat aV).1) x1) (cond (ba x6 (List.length x0)) (some (List.getD x0 x6.toNat aV,true)) (none)) (eE x0 x1 x4 (W .i64 (x6+1)))) (none)) (some (aV,false))
def nQ.l2(N:Nat):Nat→nQ.db
 |0,_,_,_,_=>none
 |n+1,x0,x1,x4,x6=>nQ.gH N (nQ.l2 N n) x0 x1 x4 x6
def nQ.b(N:Nat)(jm:nQ.db)(a0:aK)(a1:Int):Option (bI×(Bool)):=
 jm a0 a1 aV (0:Int)
def nQ(N:Nat)(a0:aK)(a1:Int):Option (bI×(Bool)):=nQ.b N (nQ.l2 N N) a0 a1
abbrev mg.bS:=aK→Int→Int→Option (Int)
def mg.ei(N:Nat)(cF:mg.bS)(x0:aK)(x1:Int)(x5:Int):Option (Int):=
 cond (aY x5 (List.length x0:Int)) (cond (ba x5 (List.length x0)) (cond (aO (((List.getD x0 x5.toNat aV).2).1) x1) (cond (ba x5 (List.length x0)) (cond (aO ((((List.getD x0 x5.toNat aV).2).2).1) (1:Int)) (cond (ba x5 (List.length x0)) (some ((List.getD x0 x5.toNat aV).1)) (none)) (cF x0 x1 (W .i64 (x5+1)))) (none)) (cF x0 x1 (W .i64 (x5+1)))) (none)) (some (0:Int))
def mg.l4(N:Nat):Nat→mg.bS
 |0,_,_,_=>none
 |n+1,x0,x1,x5=>mg.ei N (mg.l4 N n) x0 x1 x5
def mg.b(N:Nat)(fE:mg.bS)(a0:aK)(a1:Int):Option (Int):=
 (eD N a0).bind λr1=>cond (!r1) (some (0:Int)) (fE a0 a1 (0:Int))
def mg(N:Nat)(a0:aK)(a1:Int):Option (Int):=mg.b N (mg.l4 N N) a0 a1
abbrev fe.GO:=aK→bI→aK→Int→Option (aK×(Int))
abbrev fe.eO:=aK→bI→aK→Int→Option (aK×(Int))
abbrev fe.Ov:=aK→bI→Option (aK×(Int))
def fe.uV(N:Nat)(x1:aK)(x5:bI)(aX:aK)(bb:Int):Option (aK×(Int)):=
 cond (jY 0 bb (List.length x1:Int) (List.length x1:Int)) (let v10:List ((Int)×((Int)×((Int)×((Int)×(Unit))))):=List.drop (0:Int).toNat (List.take bb.toNat x1);cond (small (List.length aX+List.length v10)) (let v11:List ((Int)×((Int)×((Int)×((Int)×(Unit))))):=aX++v10;cond (small (List.length v11+List.length ([x5]))) (let Yu:List ((Int)×((Int)×((Int)×((Int)×(Unit))))):=v11++([x5]);cond (jY bb (List.length x1:Int) (List.length x1:Int) (List.length x1:Int)) (let v13:List ((Int)×((Int)×((Int)×((Int)×(Unit))))):=List.drop bb.toNat (List.take (List.length x1:Int).toNat x1);cond (small (List.length Yu+List.length v13)) (some ((Yu++v13),(0:Int))) (none)) (none)) (none)) (none)) (none)
def fe.Bf(N:Nat)(x1:aK)(x5:bI)(aX:aK)(bb:Int):Option (aK×(Int)):=fe.uV N x1 x5 aX bb
def fe.kP(N:Nat)(vm:fe.GO)(fH:fe.eO)(x1:aK)(x5:bI)(aX:aK)(bb:Int):Option (aK×(Int)):=
 cond (aY bb (List.length x1:Int)) (cond (ba bb (List.length x1)) (cond (aY ((List.getD x1 bb.toNat aV).1) x5.1) (fH x1 x5 aX (W .i64 (bb+1))) (vm x1 x5 aX bb)) (none)) (vm x1 x5 aX bb)
def fe.lj(N:Nat):Nat→fe.eO
 |0,_,_,_,_=>none
 |n+1,x1,x5,aX,bb=>fe.kP N (fe.Bf N) (fe.lj N n) x1 x5 aX bb
def fe.BT(N:Nat)(rM:fe.eO)(x1:aK)(x5:bI):Option (aK×(Int)):=
 rM x1 x5 ([]) (0:Int)
def fe.Jf(N:Nat)(x1:aK)(x5:bI):Option (aK×(Int)):=fe.BT N (fe.lj N N) x1 x5
def fe.b(N:Nat)(Da:fe.Ov)(a0:aE)(a1:aK)(a2:bI):Option (aK×(Int)):=
 (oh N a0 a1).bind λr1=>cond (!r1) (some ([],(1:Int))) ((eD N ([a2])).bind λr2=>cond (!r2) (some ([],(1:Int))) ((zj N a0 a2.2.1).bind λr3=>cond (aO r3 0) (some ([],(3:Int))) (cond (!aO r3 1) (some ([],(7:Int))) ((nQ N a1 a2.1).bind λr4=>cond (r4.2) (some ([],(4:Int))) (cond (aO a2.2.2.1 1) ((mg N a1 a2.2.1).bind λr5=>cond (!aO r5 0) (some ([],(4:Int))) (Da a1 a2)) (Da a1 a2))))))
def fe(N:Nat)(a0:aE)(a1:aK)(a2:bI):Option (aK×(Int)):=fe.b N (fe.Jf N) a0 a1 a2
def Vi(N:Nat)(a0:aK)(a1:Int):Option (bI×(Bool)):=
 (eD N a0).bind λr1=>cond (!r1) (some (aV,false)) ((nQ N a0 a1).bind λr2=>some (r2.1,r2.2))
def QU(N:Nat)(a0:aQ)(a1:Int):Option (Bool):=
 (Vi N a0.2.2.1.2.1 a1).bind λr1=>some r1.2
abbrev od.db:=(List (Int))→Int→Option (List (Int))
def od.gH(N:Nat)(eE:od.db)(x0:List (Int))(x3:Int):Option (List (Int)):=
 cond (aY 0 x3) (let v2:Int:=W .i64 (x3-1);cond (ba v2 (List.length x0)) (cond (aO (List.getD x0 v2.toNat (0:Int)) (0:Int)) (eE x0 (W .i64 (x3-1))) (cond (jY 0 x3 x3 (List.length x0:Int)) (some (List.drop (0:Int).toNat (List.take x3.toNat x0))) (none))) (none)) (cond (jY 0 x3 x3 (List.length x0:Int)) (some (List.drop (0:Int).toNat (List.take x3.toNat x0))) (none))
def od.l2(N:Nat):Nat→od.db
 |0,_,_=>none
 |n+1,x0,x3=>od.gH N (od.l2 N n) x0 x3
def od.b(N:Nat)(jm:od.db)(a0:List (Int)):Option (List (Int)):=
 jm a0 (List.length a0:Int)
def od(N:Nat)(a0:List (Int)):Option (List (Int)):=od.b N (od.l2 N N) a0
def F83(N:Nat)(a0:Int):Option (List (Int)):=
 cond (aY 32 0) (none) ((od N ([(qL .and .u64 a0 4294967295),(shr .u64 a0 32)])).bind λr3=>some r3)
def Wu(N:Nat)(a0:Bool)(a1:List (Int)):Option aH:=
 (od N a1).bind λr1=>cond (a0) (some (aY 0 (List.length r1:Int),(r1,()))) (some (false,(r1,())))
def jz(N:Nat)(a0:Int):Option aH:=
 let v1:Int:=W .u64 a0;cond (aY a0 0) ((F83 N (W .u64 (0-v1))).bind λr3=>(Wu N (aY a0 0) r3).bind λr4=>some r4) ((F83 N v1).bind λr5=>(Wu N (aY a0 0) r5).bind λr6=>some r6)
def TK(N:Nat)(a0:aH):Option aH:=
 (Wu N (!a0.1) a0.2.1).bind λr1=>some r1
def yg(N:Nat)(a0:Int)(a1:Int)(a2:Int)(a3:Int)(a4:aH):Option bE:=
 (TK N a4).bind λr1=>some ([(a0,(a1,(r1,()))),(a2,(a3,(a4,())))])
def ZX(N:Nat)(a0:List (Int))(a1:Int):Option (Int):=
 cond (aY a1 (List.length a0:Int)) (cond (ba a1 (List.length a0)) (some (List.getD a0 a1.toNat (0:Int))) (none)) (some (0:Int))
abbrev vj.Yt:=(List (Int))→(List (Int))→(List (Int))→Int→Int→Option (List (Int))
abbrev vj.bS:=(List (Int))→(List (Int))→(List (Int))→Int→Int→Option (List (Int))
def vj.TJ(N:Nat)(cF:vj.bS)(x0:List (Int))(x1:List (Int))(x5:List (Int))(x6:Int)(x7:Int):Option (List (Int)):=
 (ZX N x0 x7).bind λr3=>(ZX N x1 x7).bind λr4=>let v6:Int:=W .u64 (x6+(W .u64 (r3+r4)));let v7:Int:=qL .and .u64 v6 4294967295;cond (small (List.length x5+List.length ([v7]))) (cond (aY 32 0) (none) (cF x0 x1 (x5++([v7])) (shr .u64 v6 32) (W .i64 (x7+1)))) (none)
def vj.j6(N:Nat)(cF:vj.bS)(x0:List (Int))(x1:List (Int))(x5:List (Int))(x6:Int)(x7:Int):Option (List (Int)):=vj.TJ N cF x0 x1 x5 x6 x7
def vj.ei(N:Nat)(Lj:vj.Yt)(cF:vj.bS)(x0:List (Int))(x1:List (Int))(x5:List (Int))(x6:Int)(x7:Int):Option (List (Int)):=
 cond (aY x7 (List.length x0:Int)) (Lj x0 x1 x5 x6 x7) (cond (aY x7 (List.length x1:Int)) (Lj x0 x1 x5 x6 x7) (cond (aY 0 x6) (Lj x0 x1 x5 x6 x7) (some x5)))
def vj.l4(N:Nat):Nat→vj.bS
 |0,_,_,_,_,_=>none
 |n+1,x0,x1,x5,x6,x7=>vj.ei N (vj.j6 N (vj.l4 N n)) (vj.l4 N n) x0 x1 x5 x6 x7
def vj.b(N:Nat)(fE:vj.bS)(a0:List (Int))(a1:List (Int)):Option (List (Int)):=
 fE a0 a1 ([]) (0:Int) (0:Int)
def vj(N:Nat)(a0:List (Int))(a1:List (Int)):Option (List (Int)):=vj.b N (vj.l4 N N) a0 a1
abbrev Dt.jD:=(List (Int))→(List (Int))→Int→Option (Int)
def Dt.uw(N:Nat)(kA:Dt.jD)(x0:List (Int))(x1:List (Int))(x5:Int):Option (Int):=
 cond (dj 0 x5) (cond (ba x5 (List.length x0)) (cond (ba x5 (List.length x1)) (cond (aY (List.getD x0 x5.toNat (0:Int)) (List.getD x1 x5.toNat (0:Int))) (some (-1:Int)) (cond (ba x5 (List.length x0)) (cond (ba x5 (List.length x1)) (cond (aY (List.getD x1 x5.toNat (0:Int)) (List.getD x0 x5.toNat (0:Int))) (some (1:Int)) (kA x0 x1 (W .i64 (x5-1)))) (none)) (none))) (none)) (none)) (some (0:Int))
def Dt.l6(N:Nat):Nat→Dt.jD
 |0,_,_,_=>none
 |n+1,x0,x1,x5=>Dt.uw N (Dt.l6 N n) x0 x1 x5
def Dt.b(N:Nat)(xd:Dt.jD)(a0:List (Int))(a1:List (Int)):Option (Int):=
 cond (!aO (List.length a0:Int) (List.length a1:Int)) (cond (aY (List.length a0:Int) (List.length a1:Int)) (some (-1:Int)) (some (1:Int))) (xd a0 a1 (W .i64 ((List.length a0:Int)-1)))
def Dt(N:Nat)(a0:List (Int))(a1:List (Int)):Option (Int):=Dt.b N (Dt.l6 N N) a0 a1
abbrev DW.bS:=(List (Int))→(List (Int))→(List (Int))→Int→Int→Option (List (Int))
def DW.ei(N:Nat)(cF:DW.bS)(x0:List (Int))(x1:List (Int))(x5:List (Int))(x6:Int)(x7:Int):Option (List (Int)):=
 cond (aY x7 (List.length x0:Int)) (cond (ba x7 (List.length x0)) ((ZX N x1 x7).bind λr2=>let v3:Int:=W .u64 (r2+x6);cond (aY (List.getD x0 x7.toNat (0:Int)) v3) (let v5:Int:=W .u64 ((W .u64 ((List.getD x0 x7.toNat (0:Int))+4294967296))-v3);cond (small (List.length x5+List.length ([v5]))) (cF x0 x1 (x5++([v5])) (1:Int) (W .i64 (x7+1))) (none)) (let v8:Int:=W .u64 ((List.getD x0 x7.toNat (0:Int))-v3);cond (small (List.length x5+List.length ([v8]))) (cF x0 x1 (x5++([v8])) (0:Int) (W .i64 (x7+1))) (none))) (none)) (some x5)
def DW.l4(N:Nat):Nat→DW.bS
 |0,_,_,_,_,_=>none
 |n+1,x0,x1,x5,x6,x7=>DW.ei N (DW.l4 N n) x0 x1 x5 x6 x7
def DW.b(N:Nat)(fE:DW.bS)(a0:List (Int))(a1:List (Int)):Option (List (Int)):=
 fE a0 a1 ([]) (0:Int) (0:Int)
def DW(N:Nat)(a0:List (Int))(a1:List (Int)):Option (List (Int)):=DW.b N (DW.l4 N N) a0 a1
def yR(N:Nat)(a0:aH)(a1:aH):Option aH:=
 cond (ql .bool a0.1 a1.1) ((vj N a0.2.1 a1.2.1).bind λr1=>(Wu N a0.1 r1).bind λr2=>some r2) ((Dt N a0.2.1 a1.2.1).bind λr3=>cond (dj 0 r3) ((DW N a0.2.1 a1.2.1).bind λr4=>(Wu N a0.1 r4).bind λr5=>some r5) ((DW N a1.2.1 a0.2.1).bind λr6=>(Wu N a1.1 r6).bind λr7=>some r7))
def wH(N:Nat)(a0:aH):Option ((Int)×(Bool)):=
 cond (aY 2 (List.length a0.2.1:Int)) (some ((0:Int),false)) ((ZX N a0.2.1 (0:Int)).bind λr1=>(ZX N a0.2.1 (1:Int)).bind λr2=>cond (aY 32 0) (none) (let v4:Int:=qL .or .u64 r1 (W .u64 (shl .u64 r2 32));cond (a0.1) (cond (aY 9223372036854775808 v4) (some ((0:Int),false)) (some ((W .i64 (W .u64 (0-v4))),true))) (cond (aY 9223372036854775807 v4) (some ((0:Int),false)) (some ((W .i64 v4),true)))))
def Qw(N:Nat)(a0:aH):Option ((Int)×(Bool)):=
 (wH N a0).bind λr1=>cond (!r1.2) (some ((0:Int),false)) (cond (aO r1.1 (-9223372036854775808)) (some ((0:Int),false)) (some (r1.1,true)))
abbrev cr.GP:=au→au→au→Int→Int→Int→Int→Bool→aH→Int→Option (au×(Bool))
abbrev cr.Yv:=au→au→au→Int→Int→Int→Int→Bool→Option (au×(Bool))
abbrev cr.fv:=au→au→au→Int→Int→Int→Option (au×(Bool))
abbrev cr.bS:=au→au→au→Int→Int→Option (au×(Bool))
def cr.HJ(N:Nat)(cF:cr.bS)(eN:cr.fv)(JH:cr.GP)(x0:au)(x1:au)(x6:au)(x7:Int)(x8:Int)(x9:Int)(bx:Int)(aX:Bool)(bb:aH)(bV:Int):Option (au×(Bool)):=
 cond (aY bV (List.length x1:Int)) (cond (ba bV (List.length x1)) (cond (aO ((List.getD x1 bV.toNat bl).1) x8) (cond (ba bV (List.length x1)) (cond (aO (((List.getD x1 bV.toNat bl).2).1) x9) (cond (ba bV (List.length x1)) ((jz N ((((List.getD x1 bV.toNat bl).2).2).1)).bind λr6=>(yR N bb r6).bind λr7=>JH x0 x1 x6 x7 x8 x9 bx true r7 (W .i64 (bV+1))) (none)) (JH x0 x1 x6 x7 x8 x9 bx aX bb (W .i64 (bV+1)))) (none)) (JH x0 x1 x6 x7 x8 x9 bx aX bb (W .i64 (bV+1)))) (none)) (cond (aX) ((jz N bx).bind λnL=>(yR N bb nL).bind λnW=>(Qw N nW).bind λqx=>cond (!qx.2) (some ([],false)) (cond (!aO qx.1 0) (cond (small (List.length x6+List.length ([(x8,(x9,(qx.1,())))]))) (eN x0 x1 (x6++([(x8,(x9,(qx.1,())))])) x7 x8 (W .i64 (x9+1))) (none)) (eN x0 x1 x6 x7 x8 (W .i64 (x9+1))))) (cond (!aO bx 0) (cond (small (List.length x6+List.length ([(x8,(x9,(bx,())))]))) (eN x0 x1 (x6++([(x8,(x9,(bx,())))])) x7 x8 (W .i64 (x9+1))) (none)) (eN x0 x1 x6 x7 x8 (W .i64 (x9+1)))))
def cr.IJ(N:Nat)(cF:cr.bS)(eN:cr.fv):Nat→cr.GP
 |0,_,_,_,_,_,_,_,_,_,_=>none
 |n+1,x0,x1,x6,x7,x8,x9,bx,aX,bb,bV=>cr.HJ N cF eN (cr.IJ N cF eN n) x0 x1 x6 x7 x8 x9 bx aX bb bV
def cr.KA(N:Nat)(Yw:cr.GP)(cF:cr.bS)(eN:cr.fv)(x0:au)(x1:au)(x6:au)(x7:Int)(x8:Int)(x9:Int)(bx:Int)(aX:Bool):Option (au×(Bool)):=
 Yw x0 x1 x6 x7 x8 x9 bx aX (false,pq) (0:Int)
def cr.Sb(N:Nat)(cF:cr.bS)(eN:cr.fv)(x0:au)(x1:au)(x6:au)(x7:Int)(x8:Int)(x9:Int)(bx:Int)(aX:Bool):Option (au×(Bool)):=cr.KA N (cr.IJ N cF eN N) cF eN x0 x1 x6 x7 x8 x9 bx aX
def cr.q4(N:Nat)(A7:cr.Yv)(cF:cr.bS)(eN:cr.fv)(x0:au)(x1:au)(x6:au)(x7:Int)(x8:Int)(x9:Int):Option (au×(Bool)):=
 cond (aY x9 6) (cond (aY x7 (List.length x0:Int)) (cond (ba x7 (List.length x0)) (cond (aO ((List.getD x0 x7.toNat bl).1) x8) (cond (ba x7 (List.length x0)) (cond (aO (((List.getD x0 x7.toNat bl).2).1) x9) (cond (ba x7 (List.length x0)) (A7 x0 x1 x6 (W .i64 (x7+1)) x8 x9 ((((List.getD x0 x7.toNat bl).2).2).1) false) (none)) (A7 x0 x1 x6 x7 x8 x9 (0:Int) false)) (none)) (A7 x0 x1 x6 x7 x8 x9 (0:Int) false)) (none)) (A7 x0 x1 x6 x7 x8 x9 (0:Int) false)) (cF x0 x1 x6 x7 (W .i64 (x8+1)))
def cr.l7(N:Nat)(cF:cr.bS):Nat→cr.fv
 |0,_,_,_,_,_,_=>none
 |n+1,x0,x1,x6,x7,x8,x9=>cr.q4 N (cr.Sb N cF (cr.l7 N cF n)) cF (cr.l7 N cF n) x0 x1 x6 x7 x8 x9
def cr.ei(N:Nat)(u6:cr.fv)(cF:cr.bS)(x0:au)(x1:au)(x6:au)(x7:Int)(x8:Int):Option (au×(Bool)):=
 cond (dj x8 24) (u6 x0 x1 x6 x7 x8 (0:Int)) (some (x6,true))
def cr.l4(N:Nat):Nat→cr.bS
 |0,_,_,_,_,_=>none
 |n+1,x0,x1,x6,x7,x8=>cr.ei N (cr.l7 N (cr.l4 N n) N) (cr.l4 N n) x0 x1 x6 x7 x8
def cr.b(N:Nat)(fE:cr.bS)(a0:au)(a1:au):Option (au×(Bool)):=
 fE a0 a1 ([]) (0:Int) (0:Int)
def cr(N:Nat)(a0:au)(a1:au):Option (au×(Bool)):=cr.b N (cr.l4 N N) a0 a1
abbrev ns.dT:=Int→Int→Int→bE→aH→Bool→Int→Option ((Int)×(Bool))
def ns.nO(N:Nat)(dp:ns.dT)(x0:Int)(x1:Int)(x2:Int)(x3:bE)(bx:aH)(aX:Bool)(bb:Int):Option ((Int)×(Bool)):=
 cond (aY bb (List.length x3:Int)) (cond (ba bb (List.length x3)) (cond (aO ((List.getD x3 bb.toNat ((0:Int),((0:Int),((false,pq),())))).1) x1) (cond (ba bb (List.length x3)) (cond (aO (((List.getD x3 bb.toNat ((0:Int),((0:Int),((false,pq),())))).2).1) x2) (cond (ba bb (List.length x3)) ((yR N bx ((((List.getD x3 bb.toNat ((0:Int),((0:Int),((false,pq),())))).2).2).1)).bind λr2=>dp x0 x1 x2 x3 r2 true (W .i64 (bb+1))) (none)) (dp x0 x1 x2 x3 bx aX (W .i64 (bb+1)))) (none)) (dp x0 x1 x2 x3 bx aX (W .i64 (bb+1)))) (none)) (cond (!aX) (some (x0,true)) ((jz N x0).bind λr6=>(yR N bx r6).bind λr7=>(wH N r7).bind λr8=>some (r8.1,r8.2)))
def ns.l3(N:Nat):Nat→ns.dT
 |0,_,_,_,_,_,_,_=>none
 |n+1,x0,x1,x2,x3,bx,aX,bb=>ns.nO N (ns.l3 N n) x0 x1 x2 x3 bx aX bb
def ns.b(N:Nat)(oD:ns.dT)(a0:Int)(a1:Int)(a2:Int)(a3:bE):Option ((Int)×(Bool)):=
 oD a0 a1 a2 a3 (false,pq) false (0:Int)
def ns(N:Nat)(a0:Int)(a1:Int)(a2:Int)(a3:bE):Option ((Int)×(Bool)):=ns.b N (ns.l3 N N) a0 a1 a2 a3
abbrev dv.Yv:=au→bE→au→Int→Int→Int→Int→Option (au×(Bool))
abbrev dv.fv:=au→bE→au→Int→Int→Int→Option (au×(Bool))
abbrev dv.bS:=au→bE→au→Int→Int→Option (au×(Bool))
def dv.KA(N:Nat)(cF:dv.bS)(eN:dv.fv)(x0:au)(x1:bE)(x6:au)(x7:Int)(x8:Int)(x9:Int)(bx:Int):Option (au×(Bool)):=
 (ns N bx x8 x9 x1).bind λr5=>cond (!r5.2) (some ([],false)) (cond (!aO r5.1 0) (cond (small (List.length x6+List.length ([(x8,(x9,(r5.1,())))]))) (eN x0 x1 (x6++([(x8,(x9,(r5.1,())))])) x7 x8 (W .i64 (x9+1))) (none)) (eN x0 x1 x6 x7 x8 (W .i64 (x9+1))))
def dv.Sb(N:Nat)(cF:dv.bS)(eN:dv.fv)(x0:au)(x1:bE)(x6:au)(x7:Int)(x8:Int)(x9:Int)(bx:Int):Option (au×(Bool)):=dv.KA N cF eN x0 x1 x6 x7 x8 x9 bx
def dv.q4(N:Nat)(A7:dv.Yv)(cF:dv.bS)(eN:dv.fv)(x0:au)(x1:bE)(x6:au)(x7:Int)(x8:Int)(x9:Int):Option (au×(Bool)):=
 cond (dj x9 24) (cond (aY x7 (List.length x0:Int)) (cond (ba x7 (List.length x0)) (cond (aO ((List.getD x0 x7.toNat bl).1) x8) (cond (ba x7 (List.length x0)) (cond (aO (((List.getD x0 x7.toNat bl).2).1) x9) (cond (ba x7 (List.length x0)) (A7 x0 x1 x6 (W .i64 (x7+1)) x8 x9 ((((List.getD x0 x7.toNat bl).2).2).1)) (none)) (A7 x0 x1 x6 x7 x8 x9 (0:Int))) (none)) (A7 x0 x1 x6 x7 x8 x9 (0:Int))) (none)) (A7 x0 x1 x6 x7 x8 x9 (0:Int))) (cF x0 x1 x6 x7 (W .i64 (x8+1)))
def dv.l7(N:Nat)(cF:dv.bS):Nat→dv.fv
 |0,_,_,_,_,_,_=>none
 |n+1,x0,x1,x6,x7,x8,x9=>dv.q4 N (dv.Sb N cF (dv.l7 N cF n)) cF (dv.l7 N cF n) x0 x1 x6 x7 x8 x9
def dv.ei(N:Nat)(u6:dv.fv)(cF:dv.bS)(x0:au)(x1:bE)(x6:au)(x7:Int)(x8:Int):Option (au×(Bool)):=
 cond (dj x8 7) (u6 x0 x1 x6 x7 x8 (0:Int)) (some (x6,true))
def dv.l4(N:Nat):Nat→dv.bS
 |0,_,_,_,_,_=>none
 |n+1,x0,x1,x6,x7,x8=>dv.ei N (dv.l7 N (dv.l4 N n) N) (dv.l4 N n) x0 x1 x6 x7 x8
def dv.b(N:Nat)(fE:dv.bS)(a0:au)(a1:bE):Option (au×(Bool)):=
 fE a0 a1 ([]) (0:Int) (1:Int)
def dv(N:Nat)(a0:au)(a1:bE):Option (au×(Bool)):=dv.b N (dv.l4 N N) a0 a1
def yf(N:Nat)(a0:an)(a1:au)(a2:bE):Option (an×(Int)):=
 (cr N a0.2.2.2.1 a1).bind λr1=>cond (!r1.2) (some ((ck,(c8,(bG,(bG,(dC,(dQ,())))))),(2:Int))) ((dv N a0.2.2.1 a2).bind λr2=>cond (!r2.2) (some ((ck,(c8,(bG,(bG,(dC,(dQ,())))))),(2:Int))) (some ((a0.1,(a0.2.1,(r2.1,(r1.1,a0.2.2.2.2)))),(0:Int))))
def N7(N:Nat)(a0:aQ)(a1:Int)(a2:Int)(a3:Int)(a4:Int)(a5:Int):Option (aQ×da):=
 (jz N a5).bind λr1=>(yg N a1 a2 a3 a4 r1).bind λr2=>(yf N a0.2.2.1 bG r2).bind λr3=>some ((a0.1,(a0.2.1,(r3.1,a0.2.2.2))),(r3.2,cD))
abbrev o7.bM:=au→Int→aH→aH→Int→Option aH
def o7.ed(N:Nat)(bO:o7.bM)(x0:au)(x1:Int)(x4:aH)(x5:aH)(x6:Int):Option aH:=
 cond (aY x6 (List.length x0:Int)) (cond (ba x6 (List.length x0)) (cond (aO (((List.getD x0 x6.toNat bl).2).1) x1) (cond (ba x6 (List.length x0)) ((jz N ((((List.getD x0 x6.toNat bl).2).2).1)).bind λr3=>(yR N x5 r3).bind λr4=>bO x0 x1 x4 r4 (W .i64 (x6+1))) (none)) (bO x0 x1 x4 x5 (W .i64 (x6+1)))) (none)) (some x5)
def o7.l5(N:Nat):Nat→o7.bM
 |0,_,_,_,_,_=>none
 |n+1,x0,x1,x4,x5,x6=>o7.ed N (o7.l5 N n) x0 x1 x4 x5 x6
def o7.b(N:Nat)(eW:o7.bM)(a0:au)(a1:Int):Option aH:=
 (zi N a0).bind λr1=>cond (!r1) (some (false,pq)) (eW a0 a1 (false,pq) (false,pq) (0:Int))
def o7(N:Nat)(a0:au)(a1:Int):Option aH:=o7.b N (o7.l5 N N) a0 a1
def RW(N:Nat)(a0:aH):Option (Int):=
 cond (aO (List.length a0.2.1:Int) 0) (some (0:Int)) (cond (a0.1) (some (-1:Int)) (some (1:Int)))
abbrev Dz.db:=au→Int→Option (Bool)
def Dz.gH(N:Nat)(eE:Dz.db)(x0:au)(x3:Int):Option (Bool):=
 cond (aY x3 6) ((o7 N x0 x3).bind λr2=>(RW N r2).bind λr3=>cond (!aO r3 0) (some false) (eE x0 (W .i64 (x3+1)))) ((zi N x0).bind λr5=>some r5)
def Dz.l2(N:Nat):Nat→Dz.db
 |0,_,_=>none
 |n+1,x0,x3=>Dz.gH N (Dz.l2 N n) x0 x3
def Dz.b(N:Nat)(jm:Dz.db)(a0:au):Option (Bool):=
 jm a0 (0:Int)
def Dz(N:Nat)(a0:au):Option (Bool):=Dz.b N (Dz.l2 N N) a0
def Dv(N:Nat)(a0:Int):Option (Bool):=
 cond (dj 1 a0) (some (dj a0 1000000000000)) (some false)
def Qp(N:Nat)(a0:gm):Option (Bool):=
 cond (dj 1 a0.1) (cond (dj a0.1 1099511627776) (cond (dj 1 a0.2.1) (cond (dj a0.2.1 24) (cond (dj 0 a0.2.2.1) (cond (aY a0.2.2.1 6) (cond (aO a0.2.2.2.1 1) (cond (dj 1 a0.2.2.2.2.1) (cond (dj a0.2.2.2.2.1 1000000000) ((Dv N a0.2.2.2.2.2.1).bind λr1=>some r1) (some false)) (some false)) (cond (aO a0.2.2.2.1 2) (cond (dj 1 a0.2.2.2.2.1) (cond (dj a0.2.2.2.2.1 1000000000) ((Dv N a0.2.2.2.2.2.1).bind λr2=>some r2) (some false)) (some false)) (some false))) (some false)) (some false)) (some false)) (some false)) (some false)) (some false)
abbrev mL.bS:=bs→Int→Option (Bool)
def mL.ei(N:Nat)(cF:mL.bS)(x0:bs)(x3:Int):Option (Bool):=
 cond (aY x3 (List.length x0:Int)) (cond (ba x3 (List.length x0)) ((Qp N (List.getD x0 x3.toNat fa)).bind λr2=>cond (!r2) (some false) (cond (aY 0 x3) (cond (ba x3 (List.length x0)) (let v3:Int:=W .i64 (x3-1);cond (ba v3 (List.length x0)) (cond (dj ((List.getD x0 x3.toNat fa).1) ((List.getD x0 v3.toNat fa).1)) (some false) (cF x0 (W .i64 (x3+1)))) (none)) (none)) (cF x0 (W .i64 (x3+1))))) (none)) (some true)
def mL.l4(N:Nat):Nat→mL.bS
 |0,_,_=>none
 |n+1,x0,x3=>mL.ei N (mL.l4 N n) x0 x3
def mL.b(N:Nat)(fE:mL.bS)(a0:bs):Option (Bool):=
 cond (aY 32 (List.length a0:Int)) (some false) (fE a0 (0:Int))
def mL(N:Nat)(a0:bs):Option (Bool):=mL.b N (mL.l4 N N) a0
abbrev CL.bM:=au→aH→aH→Int→Option aH
def CL.ed(N:Nat)(bO:CL.bM)(x0:au)(x2:aH)(x3:aH)(x4:Int):Option aH:=
 cond (aY x4 (List.length x0:Int)) (cond (ba x4 (List.length x0)) ((jz N ((((List.getD x0 x4.toNat bl).2).2).1)).bind λr3=>(yR N x3 r3).bind λr4=>bO x0 x2 r4 (W .i64 (x4+1))) (none)) (some x3)
def CL.l5(N:Nat):Nat→CL.bM
 |0,_,_,_,_=>none
 |n+1,x0,x2,x3,x4=>CL.ed N (CL.l5 N n) x0 x2 x3 x4
def CL.b(N:Nat)(eW:CL.bM)(a0:au):Option aH:=
 (BC N a0).bind λr1=>cond (!r1) (some (false,pq)) (eW a0 (false,pq) (false,pq) (0:Int))
def CL(N:Nat)(a0:au):Option aH:=CL.b N (CL.l5 N N) a0
def Kx(N:Nat)(a0:an)(a1:Int):Option (Bool):=
 (Vi N a0.2.1 a1).bind λr1=>cond (r1.2) (some true) (some (aO a1 0))
def Qq(N:Nat)(a0:aE)(a1:Int):Option (Int):=
 (Bd N a0).bind λr1=>cond (!r1) (some (0:Int)) ((zj N a0 a1).bind λr2=>some r2)
abbrev gb.rL:=ae→an→Int→Option (Bool)
abbrev gb.rO:=ae→an→Int→Option (Bool)
abbrev gb.jv:=ae→an→Int→Option (Bool)
abbrev gb.jD:=ae→an→Int→Option (Bool)
def gb.vx(N:Nat)(GG:gb.rL)(x2:ae)(x3:an)(x9:Int):Option (Bool):=
 cond (aY x9 (List.length x3.2.2.2.2.2.1:Int)) (cond (ba x9 (List.length x3.2.2.2.2.2.1)) ((Kx N x3 (((List.getD x3.2.2.2.2.2.1 x9.toNat fa).2).1)).bind λLg=>cond (!Lg) (some false) (cond (ba x9 (List.length x3.2.2.2.2.2.1)) (cond (dj (List.length x2.1:Int) ((((List.getD x3.2.2.2.2.2.1 x9.toNat fa).2).2).1)) (some false) (GG x2 x3 (W .i64 (x9+1)))) (none))) (none)) (some true)
def gb.wT(N:Nat):Nat→gb.rL
 |0,_,_,_=>none
 |n+1,x2,x3,x9=>gb.vx N (gb.wT N n) x2 x3 x9
def gb.ye(N:Nat)(GH:gb.rL)(A8:gb.rO)(x2:ae)(x3:an)(x8:Int):Option (Bool):=
 cond (aY x8 (List.length x3.2.2.2.2.1:Int)) (cond (ba x8 (List.length x3.2.2.2.2.1)) ((Dv N (List.getD x3.2.2.2.2.1 x8.toNat (0:Int))).bind λJG=>cond (!JG) (some false) (A8 x2 x3 (W .i64 (x8+1)))) (none)) (GH x2 x3 (0:Int))
def gb.yX(N:Nat):Nat→gb.rO
 |0,_,_,_=>none
 |n+1,x2,x3,x8=>gb.ye N (gb.wT N N) (gb.yX N n) x2 x3 x8
def gb.pD(N:Nat)(GQ:gb.rO)(lI:gb.jv)(x2:ae)(x3:an)(x7:Int):Option (Bool):=
 cond (aY x7 (List.length x3.2.2.2.1:Int)) (cond (ba x7 (List.length x3.2.2.2.1)) ((Kx N x3 ((List.getD x3.2.2.2.1 x7.toNat bl).1)).bind λC8=>cond (!C8) (some false) (cond (ba x7 (List.length x3.2.2.2.1)) (cond (dj (List.length x2.1:Int) (((List.getD x3.2.2.2.1 x7.toNat bl).2).1)) (some false) (lI x2 x3 (W .i64 (x7+1)))) (none))) (none)) (GQ x2 x3 (0:Int))
def gb.p7(N:Nat):Nat→gb.jv
 |0,_,_,_=>none
 |n+1,x2,x3,x7=>gb.pD N (gb.yX N N) (gb.p7 N n) x2 x3 x7
def gb.uw(N:Nat)(xf:gb.jv)(kA:gb.jD)(x2:ae)(x3:an)(x5:Int):Option (Bool):=
 cond (aY x5 (List.length x3.2.2.1:Int)) (cond (ba x5 (List.length x3.2.2.1)) (cond (aO ((List.getD x3.2.2.1 x5.toNat bl).1) (5:Int)) ((Kx N x3 (((List.getD x3.2.2.1 x5.toNat bl).2).1)).bind λr9=>cond (!r9) (some false) (cond (aO ((List.getD x3.2.2.1 x5.toNat bl).1) (6:Int)) ((Qq N x3.1 (((List.getD x3.2.2.1 x5.toNat bl).2).1)).bind λkz=>cond (aO kz 0) (some false) (kA x2 x3 (W .i64 (x5+1)))) (cond (aO ((List.getD x3.2.2.1 x5.toNat bl).1) (7:Int)) ((Qq N x3.1 (((List.getD x3.2.2.1 x5.toNat bl).2).1)).bind λnW=>cond (aO nW 0) (some false) (kA x2 x3 (W .i64 (x5+1)))) (kA x2 x3 (W .i64 (x5+1)))))) (cond (aO ((List.getD x3.2.2.1 x5.toNat bl).1) (6:Int)) ((Qq N x3.1 (((List.getD x3.2.2.1 x5.toNat bl).2).1)).bind λvA=>cond (aO vA 0) (some false) (kA x2 x3 (W .i64 (x5+1)))) (cond (aO ((List.getD x3.2.2.1 x5.toNat bl).1) (7:Int)) ((Qq N x3.1 (((List.getD x3.2.2.1 x5.toNat bl).2).1)).bind λzb=>cond (aO zb 0) (some false) (kA x2 x3 (W .i64 (x5+1)))) (kA x2 x3 (W .i64 (x5+1)))))) (none)) (xf x2 x3 (0:Int))
def gb.l6(N:Nat):Nat→gb.jD
 |0,_,_,_=>none
 |n+1,x2,x3,x5=>gb.uw N (gb.p7 N N) (gb.l6 N n) x2 x3 x5
def gb.b(N:Nat)(xd:gb.jD)(a0:ae)(a1:an):Option (Bool):=
 (lZ N a0).bind λr1=>cond (!r1) (some false) ((oh N a1.1 a1.2.1).bind λr2=>cond (!r2) (some false) ((BC N a1.2.2.1).bind λr3=>cond (!r3) (some false) ((Dz N a1.2.2.2.1).bind λr4=>cond (!r4) (some false) ((mL N a1.2.2.2.2.2.1).bind λr5=>cond (!r5) (some false) (cond (!aO (List.length a1.2.2.2.2.1:Int) (List.length a0.1:Int)) (some false) ((CL N a1.2.2.1).bind λr6=>(RW N r6).bind λr7=>cond (!aO r7 0) (some false) (xd a0 a1 (0:Int))))))))
def gb(N:Nat)(a0:ae)(a1:an):Option (Bool):=gb.b N (gb.l6 N N) a0 a1
def RV(N:Nat)(a0:aH)(a1:aH):Option aH:=
 (TK N a1).bind λr1=>(yR N a0 r1).bind λr2=>some r2
abbrev lE.bM:=au→Int→aE→Int→Option aE
def lE.ed(N:Nat)(bO:lE.bM)(x0:au)(x1:Int)(x5:aE)(x6:Int):Option aE:=
 cond (aY x6 (List.length x0:Int)) (cond (ba x6 (List.length x0)) (cond (aO ((List.getD x0 x6.toNat bl).1) x1) (cond (ba x6 (List.length x0)) (cond (ba x6 (List.length x0)) (cond (small (List.length x5+List.length ([(((List.getD x0 x6.toNat bl).2).1,((((List.getD x0 x6.toNat bl).2).2).1,()))]))) (bO x0 x1 (x5++([(((List.getD x0 x6.toNat bl).2).1,((((List.getD x0 x6.toNat bl).2).2).1,()))])) (W .i64 (x6+1))) (none)) (none)) (none)) (bO x0 x1 x5 (W .i64 (x6+1)))) (none)) (some x5)
def lE.l5(N:Nat):Nat→lE.bM
 |0,_,_,_,_=>none
 |n+1,x0,x1,x5,x6=>lE.ed N (lE.l5 N n) x0 x1 x5 x6
def lE.b(N:Nat)(eW:lE.bM)(a0:au)(a1:Int):Option aE:=
 (zi N a0).bind λr1=>cond (!r1) (some ([])) (eW a0 a1 ([]) (0:Int))
def lE(N:Nat)(a0:au)(a1:Int):Option aE:=lE.b N (lE.l5 N N) a0 a1
abbrev g4.fv:=bs→Int→au→Int→da→Int→Option au
abbrev g4.dT:=bs→Int→au→Int→Option au
def g4.q4(N:Nat)(dp:g4.dT)(eN:g4.fv)(x0:bs)(x1:Int)(x5:au)(x6:Int)(x7:da)(x8:Int):Option au:=
 cond (aY x8 (List.length x0:Int)) (cond (ba x8 (List.length x0)) (cond (!aO (((List.getD x0 x8.toNat fa).2).1) x1) (eN x0 x1 x5 x6 x7 (W .i64 (x8+1))) (cond (ba x8 (List.length x0)) (cond (!aO ((((List.getD x0 x8.toNat fa).2).2).1) x6) (eN x0 x1 x5 x6 x7 (W .i64 (x8+1))) (cond (ba x8 (List.length x0)) (cond (aO (((((List.getD x0 x8.toNat fa).2).2).2).1) (1:Int)) (cond (ba x8 (List.length x0)) (eN x0 x1 x5 x6 (x7.1,((W .i64 (x7.2.1+((((((List.getD x0 x8.toNat fa).2).2).2).2).1))),x7.2.2)) (W .i64 (x8+1))) (none)) (cond (ba x8 (List.length x0)) (eN x0 x1 x5 x6 (x7.1,(x7.2.1,((W .i64 (x7.2.2.1+((((((List.getD x0 x8.toNat fa).2).2).2).2).1))),x7.2.2.2))) (W .i64 (x8+1))) (none))) (none))) (none))) (none)) (cond (aY 0 x7.2.1) (cond (small (List.length x5+List.length ([x7]))) (dp x0 x1 (x5++([x7])) (W .i64 (x6+1))) (none)) (cond (aY 0 x7.2.2.1) (cond (small (List.length x5+List.length ([x7]))) (dp x0 x1 (x5++([x7])) (W .i64 (x6+1))) (none)) (dp x0 x1 x5 (W .i64 (x6+1)))))
def g4.l7(N:Nat)(dp:g4.dT):Nat→g4.fv
 |0,_,_,_,_,_,_=>none
 |n+1,x0,x1,x5,x6,x7,x8=>g4.q4 N dp (g4.l7 N dp n) x0 x1 x5 x6 x7 x8
def g4.nO(N:Nat)(u6:g4.fv)(dp:g4.dT)(x0:bs)(x1:Int)(x5:au)(x6:Int):Option au:=
 cond (aY x6 6) (u6 x0 x1 x5 x6 (x6,cD) (0:Int)) (some x5)
def g4.l3(N:Nat):Nat→g4.dT
 |0,_,_,_,_=>none
 |n+1,x0,x1,x5,x6=>g4.nO N (g4.l7 N (g4.l3 N n) N) (g4.l3 N n) x0 x1 x5 x6
def g4.b(N:Nat)(oD:g4.dT)(a0:bs)(a1:Int):Option au:=
 oD a0 a1 ([]) (0:Int)
def g4(N:Nat)(a0:bs)(a1:Int):Option au:=g4.b N (g4.l3 N N) a0 a1
abbrev nn.bS:=aE→ae→Int→Option (Bool)
def nn.ei(N:Nat)(cF:nn.bS)(x1:aE)(x2:ae)(x5:Int):Option (Bool):=
 cond (aY x5 (List.length x1:Int)) (cond (ba x5 (List.length x1)) (cond (aY ((List.getD x1 x5.toNat cD).1) (0:Int)) (some false) (cond (ba x5 (List.length x1)) (cond (dj (List.length x2.1:Int) ((List.getD x1 x5.toNat cD).1)) (some false) (cond (ba x5 (List.length x1)) (cond (aO (((List.getD x1 x5.toNat cD).2).1) (0:Int)) (some false) (cond (ba x5 (List.length x1)) (cond (aO (((List.getD x1 x5.toNat cD).2).1) (-9223372036854775808:Int)) (some false) (cond (aY 0 x5) (cond (ba x5 (List.length x1)) (let v3:Int:=W .i64 (x5-1);cond (ba v3 (List.length x1)) (cond (dj ((List.getD x1 x5.toNat cD).1) ((List.getD x1 v3.toNat cD).1)) (some false) (cF x1 x2 (W .i64 (x5+1)))) (none)) (none)) (cF x1 x2 (W .i64 (x5+1))))) (none))) (none))) (none))) (none)) (some true)
def nn.l4(N:Nat):Nat→nn.bS
 |0,_,_,_=>none
 |n+1,x1,x2,x5=>nn.ei N (nn.l4 N n) x1 x2 x5
def nn.b(N:Nat)(fE:nn.bS)(a0:ae)(a1:aE):Option (Bool):=
 (lZ N a0).bind λr1=>cond (!r1) (some false) (fE a1 a0 (0:Int))
def nn(N:Nat)(a0:ae)(a1:aE):Option (Bool):=nn.b N (nn.l4 N N) a0 a1
abbrev p9.bM:=au→ae→Int→Int→Option (Bool)
def p9.ed(N:Nat)(bO:p9.bM)(x1:au)(x2:ae)(x5:Int)(x6:Int):Option (Bool):=
 cond (aY x6 (List.length x1:Int)) (cond (ba x6 (List.length x1)) (cond (aY ((List.getD x1 x6.toNat bl).1) (0:Int)) (some false) (cond (dj (List.length x2.1:Int) ((List.getD x1 x6.toNat bl).1)) (some false) (cond (aY (((List.getD x1 x6.toNat bl).2).1) (0:Int)) (some false) (cond (aY x5 (((List.getD x1 x6.toNat bl).2).1)) (some false) (cond (aY ((((List.getD x1 x6.toNat bl).2).2).1) (0:Int)) (some false) (cond (aY x5 ((((List.getD x1 x6.toNat bl).2).2).1)) (some false) (cond (aO (((List.getD x1 x6.toNat bl).2).1) (0:Int)) (cond (aO ((((List.getD x1 x6.toNat bl).2).2).1) (0:Int)) (some false) (cond (aY 0 x6) (let v3:Int:=W .i64 (x6-1);cond (ba v3 (List.length x1)) (cond (dj ((List.getD x1 x6.toNat bl).1) ((List.getD x1 v3.toNat bl).1)) (some false) (bO x1 x2 x5 (W .i64 (x6+1)))) (none)) (bO x1 x2 x5 (W .i64 (x6+1))))) (cond (aY 0 x6) (let v6:Int:=W .i64 (x6-1);cond (ba v6 (List.length x1)) (cond (dj ((List.getD x1 x6.toNat bl).1) ((List.getD x1 v6.toNat bl).1)) (some false) (bO x1 x2 x5 (W .i64 (x6+1)))) (none)) (bO x1 x2 x5 (W .i64 (x6+1))))))))))) (none)) (some true)
def p9.l5(N:Nat):Nat→p9.bM
 |0,_,_,_,_=>none
 |n+1,x1,x2,x5,x6=>p9.ed N (p9.l5 N n) x1 x2 x5 x6
def p9.b(N:Nat)(eW:p9.bM)(a0:ae)(a1:au):Option (Bool):=
 (lZ N a0).bind λr1=>cond (!r1) (some false) (eW a1 a0 (33000000000:Int) (0:Int))
def p9(N:Nat)(a0:ae)(a1:au):Option (Bool):=p9.b N (p9.l5 N N) a0 a1
def Wv(N:Nat)(a0:aH):Option aH:=
 (Wu N false a0.2.1).bind λr1=>some r1
def Nj(N:Nat)(a0:aH)(a1:aH):Option (Int):=
 (RV N a0 a1).bind λr1=>(RW N r1).bind λr2=>some r2
abbrev jh.jv:=au→Int→aH→aH→aH→aH→Int→Option (aH×(Int))
abbrev jh.fv:=aE→au→Int→aH→aH→aH→aH→Int→Option (aH×(Int))
def jh.pD(N:Nat)(lI:jh.jv)(x2:au)(x3:Int)(x8:aH)(bx:aH)(aX:aH)(bb:aH)(cv:Int):Option (aH×(Int)):=
 cond (aY cv (List.length x2:Int)) (cond (ba cv (List.length x2)) (cond (aO ((List.getD x2 cv.toNat bl).1) x3) (cond (ba cv (List.length x2)) ((jz N (((List.getD x2 cv.toNat bl).2).1)).bind λr8=>cond (ba cv (List.length x2)) ((jz N ((((List.getD x2 cv.toNat bl).2).2).1)).bind λr9=>lI x2 x3 x8 bx r8 r9 (W .i64 (cv+1))) (none)) (none)) (lI x2 x3 x8 bx aX bb (W .i64 (cv+1)))) (none)) ((yR N bx aX).bind λnW=>(Wv N nW).bind λqx=>(RV N bx bb).bind λxe=>(Wv N xe).bind λvA=>(Nj N vA qx).bind λxQ=>cond (aY 0 xQ) (some (vA,(0:Int))) (some (qx,(0:Int))))
def jh.p7(N:Nat):Nat→jh.jv
 |0,_,_,_,_,_,_,_=>none
 |n+1,x2,x3,x8,bx,aX,bb,cv=>jh.pD N (jh.p7 N n) x2 x3 x8 bx aX bb cv
def jh.q4(N:Nat)(xf:jh.jv)(eN:jh.fv)(x1:aE)(x2:au)(x3:Int)(x8:aH)(bx:aH)(aX:aH)(bb:aH)(bV:Int):Option (aH×(Int)):=
 cond (aY bV (List.length x1:Int)) (cond (ba bV (List.length x1)) (cond (aO ((List.getD x1 bV.toNat cD).1) x3) (cond (ba bV (List.length x1)) ((jz N (((List.getD x1 bV.toNat cD).2).1)).bind λr4=>eN x1 x2 x3 x8 r4 aX bb (W .i64 (bV+1))) (none)) (eN x1 x2 x3 x8 bx aX bb (W .i64 (bV+1)))) (none)) (xf x2 x3 x8 bx aX bb (0:Int))
def jh.l7(N:Nat):Nat→jh.fv
 |0,_,_,_,_,_,_,_,_=>none
 |n+1,x1,x2,x3,x8,bx,aX,bb,bV=>jh.q4 N (jh.p7 N N) (jh.l7 N n) x1 x2 x3 x8 bx aX bb bV
def jh.b(N:Nat)(u6:jh.fv)(a0:ae)(a1:aE)(a2:au)(a3:Int):Option (aH×(Int)):=
 (nn N a0 a1).bind λr1=>cond (!r1) (some ((false,pq),(1:Int))) ((p9 N a0 a2).bind λr2=>cond (!r2) (some ((false,pq),(1:Int))) (cond (aY a3 0) (some ((false,pq),(3:Int))) (cond (dj (List.length a0.1:Int) a3) (some ((false,pq),(3:Int))) (u6 a1 a2 a3 (false,pq) (false,pq) (false,pq) (false,pq) (0:Int)))))
def jh(N:Nat)(a0:ae)(a1:aE)(a2:au)(a3:Int):Option (aH×(Int)):=jh.b N (jh.l7 N N) a0 a1 a2 a3
abbrev jR.Rb:=aH→aH→aH→(List (Int))→Int→Int→Int→Option aH
abbrev jR.fv:=aH→aH→aH→(List (Int))→Int→Int→Int→Option aH
abbrev jR.dT:=aH→aH→aH→(List (Int))→Int→Option aH
def jR.Nl(N:Nat)(dp:jR.dT)(eN:jR.fv)(x2:aH)(x3:aH)(x4:aH)(x5:List (Int))(x6:Int)(x7:Int)(x8:Int):Option aH:=
 let v7:Int:=W .i64 (x6+x8);cond (ba v7 (List.length x5)) (cond (ba x6 (List.length x2.2.1)) ((ZX N x3.2.1 x8).bind λr8=>let v11:Int:=W .u64 (x7+(W .u64 ((List.getD x5 v7.toNat (0:Int))+(W .u64 ((List.getD x2.2.1 x6.toNat (0:Int))*r8)))));let Yu:Int:=W .i64 (x6+x8);cond (ba Yu (List.length x5)) (cond (aY 32 0) (none) (eN x2 x3 x4 (List.set x5 Yu.toNat (qL .and .u64 v11 4294967295)) x6 (shr .u64 v11 32) (W .i64 (x8+1)))) (none)) (none)) (none)
def jR.j9(N:Nat)(dp:jR.dT)(eN:jR.fv)(x2:aH)(x3:aH)(x4:aH)(x5:List (Int))(x6:Int)(x7:Int)(x8:Int):Option aH:=jR.Nl N dp eN x2 x3 x4 x5 x6 x7 x8
def jR.q4(N:Nat)(GN:jR.Rb)(dp:jR.dT)(eN:jR.fv)(x2:aH)(x3:aH)(x4:aH)(x5:List (Int))(x6:Int)(x7:Int)(x8:Int):Option aH:=
 cond (aY x8 (List.length x3.2.1:Int)) (GN x2 x3 x4 x5 x6 x7 x8) (cond (aY 0 x7) (GN x2 x3 x4 x5 x6 x7 x8) (dp x2 x3 x4 x5 (W .i64 (x6+1))))
def jR.l7(N:Nat)(dp:jR.dT):Nat→jR.fv
 |0,_,_,_,_,_,_,_=>none
 |n+1,x2,x3,x4,x5,x6,x7,x8=>jR.q4 N (jR.j9 N dp (jR.l7 N dp n)) dp (jR.l7 N dp n) x2 x3 x4 x5 x6 x7 x8
def jR.nO(N:Nat)(u6:jR.fv)(dp:jR.dT)(x2:aH)(x3:aH)(x4:aH)(x5:List (Int))(x6:Int):Option aH:=
 cond (aY x6 (List.length x2.2.1:Int)) (u6 x2 x3 x4 x5 x6 (0:Int) (0:Int)) ((Wu N (!(ql .bool x2.1 x3.1)) x5).bind λtR=>some tR)
def jR.l3(N:Nat):Nat→jR.dT
 |0,_,_,_,_,_=>none
 |n+1,x2,x3,x4,x5,x6=>jR.nO N (jR.l7 N (jR.l3 N n) N) (jR.l3 N n) x2 x3 x4 x5 x6
def jR.b(N:Nat)(oD:jR.dT)(a0:aH)(a1:aH):Option aH:=
 let v2:Int:=W .i64 ((W .i64 ((List.length a0.2.1:Int)+(List.length a1.2.1:Int)))+1);cond (jX v2 v2) (oD a0 a1 (false,pq) (List.replicate v2.toNat (0:Int)) (0:Int)) (none)
def jR(N:Nat)(a0:aH)(a1:aH):Option aH:=jR.b N (jR.l3 N N) a0 a1
abbrev qa.bM:=aE→au→ae→aH→aH→Int→Option (aH×(Int))
def qa.ed(N:Nat)(bO:qa.bM)(x1:aE)(x2:au)(x3:ae)(x6:aH)(x8:aH)(x9:Int):Option (aH×(Int)):=
 cond (aY x9 (List.length x3.1:Int)) ((jh N x3 x1 x2 x9).bind λr4=>cond (ba x9 (List.length x3.1)) ((jz N ((((List.getD x3.1 x9.toNat aV).2).2).1)).bind λr5=>(jR N r4.1 r5).bind λr6=>(yR N x8 r6).bind λr7=>bO x1 x2 x3 x6 r7 (W .i64 (x9+1))) (none)) (some (x8,(0:Int)))
def qa.l5(N:Nat):Nat→qa.bM
 |0,_,_,_,_,_,_=>none
 |n+1,x1,x2,x3,x6,x8,x9=>qa.ed N (qa.l5 N n) x1 x2 x3 x6 x8 x9
def qa.b(N:Nat)(eW:qa.bM)(a0:ae)(a1:aE)(a2:au):Option (aH×(Int)):=
 (nn N a0 a1).bind λr1=>cond (!r1) (some ((false,pq),(1:Int))) ((p9 N a0 a2).bind λr2=>cond (!r2) (some ((false,pq),(1:Int))) (eW a1 a2 a0 (false,pq) (false,pq) (0:Int)))
def qa(N:Nat)(a0:ae)(a1:aE)(a2:au):Option (aH×(Int)):=qa.b N (qa.l5 N N) a0 a1 a2
def Xj(N:Nat)(a0:ae)(a1:an)(a2:Int)(a3:bs):Option aH:=
 cond (small (List.length dQ+List.length a1.2.2.2.2.2.1)) (let v1:List ((Int)×((Int)×((Int)×((Int)×((Int)×((Int)×(Unit))))))):=dQ++a1.2.2.2.2.2.1;cond (small (List.length v1+List.length a3)) ((lE N a1.2.2.2.1 a2).bind λr3=>(g4 N (v1++a3) a2).bind λr4=>(qa N a0 r3 r4).bind λr5=>some r5.1) (none)) (none)
def Up(N:Nat)(a0:ae)(a1:an)(a2:Int)(a3:Int):Option (an×(Int)):=
 (gb N a0 a1).bind λr1=>cond (!r1) (some ((ck,(c8,(bG,(bG,(dC,(dQ,())))))),(1:Int))) (cond (aY a3 1) (some ((ck,(c8,(bG,(bG,(dC,(dQ,())))))),(1:Int))) ((Vi N a1.2.1 a2).bind λr2=>cond (!r2.2) (some ((ck,(c8,(bG,(bG,(dC,(dQ,())))))),(3:Int))) ((Qq N a1.1 r2.1.2.1).bind λr3=>cond (!aO r3 1) (some ((ck,(c8,(bG,(bG,(dC,(dQ,())))))),(7:Int))) ((s6 N a1.2.2.1 (5:Int) a2).bind λr4=>(jz N r4).bind λr5=>(jz N a3).bind λr6=>(RV N r5 r6).bind λr7=>(Xj N a0 a1 a2 dQ).bind λr8=>(Nj N r7 r8).bind λr9=>cond (aY r9 0) (some ((ck,(c8,(bG,(bG,(dC,(dQ,())))))),(10:Int))) ((jz N a3).bind λkz=>(yg N (5:Int) a2 (1:Int) (0:Int) kz).bind λnL=>(yf N a1 bG nL).bind λnW=>some (nW.1,nW.2))))))
def Gf(N:Nat)(a0:aQ)(a1:Int):Option (Int):=
 (Qq N a0.2.2.1.1 a1).bind λr1=>some r1
abbrev nE.gQ:=Int→Int→aK→Int→Option (aK×(Int))
def nE.yd(N:Nat)(e7:nE.gQ)(x1:Int)(x2:Int)(bx:aK)(aX:Int):Option (aK×(Int)):=
 cond (aY aX (List.length bx:Int)) (cond (ba aX (List.length bx)) (cond (aO ((List.getD bx aX.toNat aV).1) x1) (cond (ba aX (List.length bx)) (e7 x1 x2 (List.set bx aX.toNat ((List.getD bx aX.toNat aV).1,(((List.getD bx aX.toNat aV).2).1,((((List.getD bx aX.toNat aV).2).2).1,(x2,((((List.getD bx aX.toNat aV).2).2).2).2))))) (W .i64 (aX+1))) (none)) (e7 x1 x2 bx (W .i64 (aX+1)))) (none)) (some (bx,(0:Int)))
def nE.l8(N:Nat):Nat→nE.gQ
 |0,_,_,_,_=>none
 |n+1,x1,x2,bx,aX=>nE.yd N (nE.l8 N n) x1 x2 bx aX
def nE.b(N:Nat)(B8:nE.gQ)(a0:aK)(a1:Int)(a2:Int):Option (aK×(Int)):=
 (eD N a0).bind λr1=>cond (!r1) (some ([],(1:Int))) (cond (aY a2 0) (some ([],(1:Int))) (cond (aY 1000000000000 a2) (some ([],(1:Int))) ((nQ N a0 a1).bind λr2=>cond (!r2.2) (some ([],(3:Int))) (cond (small (List.length c8+List.length a0)) (B8 a1 a2 (c8++a0) (0:Int)) (none)))))
def nE(N:Nat)(a0:aK)(a1:Int)(a2:Int):Option (aK×(Int)):=nE.b N (nE.l8 N N) a0 a1 a2
def aaI(N:Nat)(a0:gm)(a1:Int):Option (aH×(Int)):=
 (Qp N a0).bind λr1=>cond (!r1) (some ((false,pq),(1:Int))) ((Dv N a1).bind λr2=>cond (!r2) (some ((false,pq),(1:Int))) (let v3:Int:=W .i64 (a0.2.2.2.2.2.1-a1);cond (aO a0.2.2.2.1 2) (let v4:Int:=W .i64 (a1-a0.2.2.2.2.2.1);cond (aY v4 0) (some ((false,pq),(0:Int))) ((jz N a0.2.2.2.2.1).bind λr5=>(jz N v4).bind λr6=>(jR N r5 r6).bind λr7=>some (r7,(0:Int)))) (cond (aY v3 0) (some ((false,pq),(0:Int))) ((jz N a0.2.2.2.2.1).bind λr8=>(jz N v3).bind λr9=>(jR N r8 r9).bind λkz=>some (kz,(0:Int))))))
def Xk(N:Nat)(a0:ae)(a1:an)(a2:gm):Option (Int):=
 (gb N a0 a1).bind λr1=>cond (!r1) (some (1:Int)) ((Qp N a2).bind λr2=>cond (!r2) (some (1:Int)) ((Vi N a1.2.1 a2.2.1).bind λr3=>cond (!r3.2) (some (3:Int)) ((Qq N a1.1 r3.1.2.1).bind λr4=>cond (!aO r4 1) (some (7:Int)) (cond (dj (List.length a0.1:Int) a2.2.2.1) (some (3:Int)) (cond (small (List.length dQ+List.length a1.2.2.2.2.2.1)) (let v5:List ((Int)×((Int)×((Int)×((Int)×((Int)×((Int)×(Unit))))))):=dQ++a1.2.2.2.2.2.1;cond (small (List.length v5+List.length ([a2]))) ((lE N a1.2.2.2.1 a2.2.1).bind λr7=>(g4 N (v5++([a2])) a2.2.1).bind λr8=>(jh N a0 r7 r8 a2.2.2.1).bind λr9=>(jz N r3.1.2.2.2.1).bind λkz=>(Nj N r9.1 kz).bind λnL=>cond (aY 0 nL) (some (9:Int)) (cond (ba a2.2.2.1 (List.length a1.2.2.2.2.1)) ((aaI N a2 (List.getD a1.2.2.2.2.1 a2.2.2.1.toNat (0:Int))).bind λnW=>(s6 N a1.2.2.1 (5:Int) a2.2.1).bind λqx=>(jz N qx).bind λxe=>(RV N xe nW.1).bind λvA=>(Xj N a0 a1 a2.2.1 ([a2])).bind λxQ=>(Nj N vA xQ).bind λzb=>cond (aY zb 0) (some (10:Int)) (some (0:Int))) (none))) (none)) (none))))))
def Un(N:Nat)(a0:gm)(a1:gm):Option (Bool):=
 cond (!aO a0.2.2.2.2.2.1 a1.2.2.2.2.2.1) (some (ql .bool (aY a1.2.2.2.2.2.1 a0.2.2.2.2.2.1) (aO a0.2.2.2.1 1))) (some (aY a0.1 a1.1))
abbrev dJ.Ov:=bs→Int→Int→bs→Int→Int→Option bs
abbrev dJ.mv:=bs→Int→Int→bs→Int→Int→Option bs
abbrev dJ.bM:=bs→Int→Int→bs→Int→Option bs
def dJ.BT(N:Nat)(bO:dJ.bM)(x0:bs)(x1:Int)(x2:Int)(x7:bs)(x8:Int)(x9:Int):Option bs:=
 cond (jY 0 x9 (List.length x7:Int) (List.length x7:Int)) (let v9:List ((Int)×((Int)×((Int)×((Int)×((Int)×((Int)×(Unit))))))):=List.drop (0:Int).toNat (List.take x9.toNat x7);cond (small (List.length v9)) (cond (ba x8 (List.length x0)) (cond (small (List.length v9+List.length ([List.getD x0 x8.toNat fa]))) (let v10:List ((Int)×((Int)×((Int)×((Int)×((Int)×((Int)×(Unit))))))):=v9++([List.getD x0 x8.toNat fa]);cond (jY x9 (List.length x7:Int) (List.length x7:Int) (List.length x7:Int)) (let v11:List ((Int)×((Int)×((Int)×((Int)×((Int)×((Int)×(Unit))))))):=List.drop x9.toNat (List.take (List.length x7:Int).toNat x7);cond (small (List.length v10+List.length v11)) (bO x0 x1 x2 (v10++v11) (W .i64 (x8+1))) (none)) (none)) (none)) (none)) (none)) (none)
def dJ.Jf(N:Nat)(bO:dJ.bM)(x0:bs)(x1:Int)(x2:Int)(x7:bs)(x8:Int)(x9:Int):Option bs:=dJ.BT N bO x0 x1 x2 x7 x8 x9
def dJ.xA(N:Nat)(Da:dJ.Ov)(bO:dJ.bM)(rN:dJ.mv)(x0:bs)(x1:Int)(x2:Int)(x7:bs)(x8:Int)(x9:Int):Option bs:=
 cond (aY x9 (List.length x7:Int)) (cond (ba x9 (List.length x7)) (cond (ba x8 (List.length x0)) ((Un N (List.getD x7 x9.toNat fa) (List.getD x0 x8.toNat fa)).bind λr6=>cond (r6) (rN x0 x1 x2 x7 x8 (W .i64 (x9+1))) (Da x0 x1 x2 x7 x8 x9)) (none)) (none)) (Da x0 x1 x2 x7 x8 x9)
def dJ.l9(N:Nat)(bO:dJ.bM):Nat→dJ.mv
 |0,_,_,_,_,_,_=>none
 |n+1,x0,x1,x2,x7,x8,x9=>dJ.xA N (dJ.Jf N bO) bO (dJ.l9 N bO n) x0 x1 x2 x7 x8 x9
def dJ.ed(N:Nat)(ze:dJ.mv)(bO:dJ.bM)(x0:bs)(x1:Int)(x2:Int)(x7:bs)(x8:Int):Option bs:=
 cond (aY x8 (List.length x0:Int)) (cond (ba x8 (List.length x0)) (cond (!aO ((((List.getD x0 x8.toNat fa).2).2).1) x1) (bO x0 x1 x2 x7 (W .i64 (x8+1))) (cond (ba x8 (List.length x0)) (cond (!aO (((((List.getD x0 x8.toNat fa).2).2).2).1) x2) (bO x0 x1 x2 x7 (W .i64 (x8+1))) (ze x0 x1 x2 x7 x8 (0:Int))) (none))) (none)) (some x7)
def dJ.l5(N:Nat):Nat→dJ.bM
 |0,_,_,_,_,_=>none
 |n+1,x0,x1,x2,x7,x8=>dJ.ed N (dJ.l9 N (dJ.l5 N n) N) (dJ.l5 N n) x0 x1 x2 x7 x8
def dJ.b(N:Nat)(eW:dJ.bM)(a0:bs)(a1:Int)(a2:Int):Option bs:=
 (mL N a0).bind λr1=>cond (!r1) (some ([])) (eW a0 a1 a2 ([]) (0:Int))
def dJ(N:Nat)(a0:bs)(a1:Int)(a2:Int):Option bs:=dJ.b N (dJ.l5 N N) a0 a1 a2
abbrev cg.xg:=bs→Int→bK→bs→Int→Option (bs×bK×(Int)×(Int))
abbrev cg.ann:=bs→Int→bK→Option (bs×bK×(Int)×(Int))
abbrev cg.xh:=gm→bs→Int→bK→bs→Int→Int→Int→Option (bs×bK×(Int)×(Int))
abbrev cg.GO:=gm→bs→Int→bK→bs→Int→Int→sW→Option (bs×bK×(Int)×(Int))
abbrev cg.JI:=gm→bs→Int→bK→bs→Int→Option (bs×bK×(Int)×(Int))
abbrev cg.fv:=gm→bs→Int→bK→bs→Int→Option (bs×bK×(Int)×(Int))
def cg.NW(N:Nat)(vn:cg.xg)(x8:bs)(x9:Int)(bx:bK)(eR:bs)(fA:Int):Option (bs×bK×(Int)×(Int)):=
 cond (aY fA (List.length x8:Int)) (cond (ba fA (List.length x8)) (cond (aY 0 ((((((List.getD x8 fA.toNat fa).2).2).2).2).1)) (cond (ba fA (List.length x8)) (cond (small (List.length eR+List.length ([List.getD x8 fA.toNat fa]))) (vn x8 x9 bx (eR++([List.getD x8 fA.toNat fa])) (W .i64 (fA+1))) (none)) (none)) (vn x8 x9 bx eR (W .i64 (fA+1)))) (none)) (some (eR,bx,x9,(0:Int)))
def cg.LF(N:Nat):Nat→cg.xg
 |0,_,_,_,_,_=>none
 |n+1,x8,x9,bx,eR,fA=>cg.NW N (cg.LF N n) x8 x9 bx eR fA
def cg.aaP(N:Nat)(Yx:cg.xg)(x8:bs)(x9:Int)(bx:bK):Option (bs×bK×(Int)×(Int)):=
 Yx x8 x9 bx ([]) (0:Int)
def cg.j22(N:Nat)(x8:bs)(x9:Int)(bx:bK):Option (bs×bK×(Int)×(Int)):=cg.aaP N (cg.LF N N) x8 x9 bx
def cg.DE(N:Nat)(eN:cg.fv)(GR:cg.xh)(x3:gm)(x8:bs)(x9:Int)(bx:bK)(aX:bs)(bb:Int)(bV:Int)(dN:Int):Option (bs×bK×(Int)×(Int)):=
 cond (aY dN (List.length x8:Int)) (cond (ba dN (List.length x8)) (cond (ba bb (List.length aX)) (cond (aO ((List.getD x8 dN.toNat fa).1) ((List.getD aX bb.toNat fa).1)) (cond (ba dN (List.length x8)) (cond (ba dN (List.length x8)) (GR x3 (List.set x8 dN.toNat ((List.getD x8 dN.toNat fa).1,(((List.getD x8 dN.toNat fa).2).1,((((List.getD x8 dN.toNat fa).2).2).1,(((((List.getD x8 dN.toNat fa).2).2).2).1,((W .i64 (((((((List.getD x8 dN.toNat fa).2).2).2).2).1)-bV)),(((((List.getD x8 dN.toNat fa).2).2).2).2).2)))))) x9 bx aX bb bV (W .i64 (dN+1))) (none)) (none)) (GR x3 x8 x9 bx aX bb bV (W .i64 (dN+1)))) (none)) (none)) (eN x3 x8 x9 bx aX (W .i64 (bb+1)))
def cg.Hc(N:Nat)(eN:cg.fv):Nat→cg.xh
 |0,_,_,_,_,_,_,_,_=>none
 |n+1,x3,x8,x9,bx,aX,bb,bV,dN=>cg.DE N eN (cg.Hc N eN n) x3 x8 x9 bx aX bb bV dN
def cg.uV(N:Nat)(Ow:cg.xh)(eN:cg.fv)(x3:gm)(x8:bs)(x9:Int)(bx:bK)(aX:bs)(bb:Int)(bV:Int)(cv:sW):Option (bs×bK×(Int)×(Int)):=
 cond (small (List.length bx+List.length ([cv]))) (Ow x3 x8 (W .i64 (x9-bV)) (bx++([cv])) aX bb bV (0:Int)) (none)
def cg.Bf(N:Nat)(eN:cg.fv)(x3:gm)(x8:bs)(x9:Int)(bx:bK)(aX:bs)(bb:Int)(bV:Int)(cv:sW):Option (bs×bK×(Int)×(Int)):=cg.uV N (cg.Hc N eN N) eN x3 x8 x9 bx aX bb bV cv
def cg.BU(N:Nat)(vm:cg.GO)(eN:cg.fv)(x3:gm)(x8:bs)(x9:Int)(bx:bK)(aX:bs)(bb:Int):Option (bs×bK×(Int)×(Int)):=
 cond (ba bb (List.length aX)) (cond (aO (((List.getD aX bb.toNat fa).2).1) x3.2.1) (eN x3 x8 x9 bx aX (W .i64 (bb+1))) (cond (ba bb (List.length aX)) (let v14:Int:=mn x9 ((((((List.getD aX bb.toNat fa).2).2).2).2).1);cond (ba bb (List.length aX)) (cond (ba bb (List.length aX)) (cond (aO x3.2.2.2.1 2) (cond (ba bb (List.length aX)) (vm x3 x8 x9 bx aX bb v14 (((List.getD aX bb.toNat fa).2).1,(x3.2.1,(x3.2.2.1,(v14,(((((((List.getD aX bb.toNat fa).2).2).2).2).2).1,())))))) (none)) (vm x3 x8 x9 bx aX bb v14 (x3.2.1,(((List.getD aX bb.toNat fa).2).1,(x3.2.2.1,(v14,(((((((List.getD aX bb.toNat fa).2).2).2).2).2).1,()))))))) (none)) (none)) (none))) (none)
def cg.HR(N:Nat)(eN:cg.fv)(x3:gm)(x8:bs)(x9:Int)(bx:bK)(aX:bs)(bb:Int):Option (bs×bK×(Int)×(Int)):=cg.BU N (cg.Bf N eN) eN x3 x8 x9 bx aX bb
def cg.q4(N:Nat)(Ox:cg.ann)(xi:cg.JI)(eN:cg.fv)(x3:gm)(x8:bs)(x9:Int)(bx:bK)(aX:bs)(bb:Int):Option (bs×bK×(Int)×(Int)):=
 cond (aY bb (List.length aX:Int)) (cond (aY 0 x9) (cond (aO x3.2.2.2.1 1) (cond (ba bb (List.length aX)) (cond (aY x3.2.2.2.2.2.1 (((((((List.getD aX bb.toNat fa).2).2).2).2).2).1)) (Ox x8 x9 bx) (cond (aO x3.2.2.2.1 2) (cond (ba bb (List.length aX)) (cond (aY (((((((List.getD aX bb.toNat fa).2).2).2).2).2).1) x3.2.2.2.2.2.1) (Ox x8 x9 bx) (xi x3 x8 x9 bx aX bb)) (none)) (xi x3 x8 x9 bx aX bb))) (none)) (cond (aO x3.2.2.2.1 2) (cond (ba bb (List.length aX)) (cond (aY (((((((List.getD aX bb.toNat fa).2).2).2).2).2).1) x3.2.2.2.2.2.1) (Ox x8 x9 bx) (xi x3 x8 x9 bx aX bb)) (none)) (xi x3 x8 x9 bx aX bb))) (Ox x8 x9 bx)) (Ox x8 x9 bx)
def cg.l7(N:Nat):Nat→cg.fv
 |0,_,_,_,_,_,_=>none
 |n+1,x3,x8,x9,bx,aX,bb=>cg.q4 N (cg.j22 N) (cg.HR N (cg.l7 N n)) (cg.l7 N n) x3 x8 x9 bx aX bb
def cg.b(N:Nat)(u6:cg.fv)(a0:bs)(a1:gm):Option (bs×bK×(Int)×(Int)):=
 (mL N a0).bind λr1=>cond (!r1) (some ([],[],(0:Int),(1:Int))) ((Qp N a1).bind λr2=>cond (!r2) (some ([],[],(0:Int),(1:Int))) (cond (small (List.length dQ+List.length a0)) ((dJ N a0 a1.2.2.1 (W .i64 ((3:Int)-a1.2.2.2.1))).bind λr5=>u6 a1 (dQ++a0) a1.2.2.2.2.1 ([]) r5 (0:Int)) (none)))
def cg(N:Nat)(a0:bs)(a1:gm):Option (bs×bK×(Int)×(Int)):=cg.b N (cg.l7 N N) a0 a1
def W6(N:Nat)(a0:sW):Option (Bool):=
 cond (dj 0 a0.1) (cond (dj a0.1 24) (cond (dj 0 a0.2.1) (cond (dj a0.2.1 24) (cond (!aO a0.1 a0.2.1) (cond (dj 0 a0.2.2.1) (cond (aY a0.2.2.1 6) (cond (dj 1 a0.2.2.2.1) (cond (dj a0.2.2.2.1 1000000000) ((Dv N a0.2.2.2.2.1).bind λr1=>some r1) (some false)) (some false)) (some false)) (some false)) (some false)) (some false)) (some false)) (some false)) (some false)
def KH(N:Nat)(a0:Int):Option ((Int)×(Int)):=
 cond (aO a0 0) (some ((2:Int),(0:Int))) (some ((5:Int),a0))
def QG(N:Nat)(a0:sW)(a1:Int):Option (bE×(Int)):=
 (W6 N a0).bind λr1=>cond (!r1) (some ([],(1:Int))) ((Dv N a1).bind λr2=>cond (!r2) (some ([],(1:Int))) ((jz N (W .i64 (a1-a0.2.2.2.2.1))).bind λr4=>(jz N a0.2.2.2.1).bind λr5=>(jR N r4 r5).bind λr6=>(RW N r6).bind λr7=>cond (aO r7 0) (some ([],(0:Int))) ((KH N a0.1).bind λr8=>(KH N a0.2.1).bind λr9=>(TK N r6).bind λkz=>some ([(r8.1,(r8.2,(r6,()))),(r9.1,(r9.2,(kz,())))],(0:Int)))))
abbrev gA.xj:=bK→ae→an→an→au→bE→Int→Option (an×(Int))
abbrev gA.bS:=bK→ae→an→an→Int→Option (an×(Int))
def gA.y7(N:Nat)(A9:gA.xj)(x2:bK)(x3:ae)(x4:an)(x6:an)(x9:au)(bx:bE)(aX:Int):Option (an×(Int)):=
 cond (aY aX (List.length x2:Int)) (cond (ba aX (List.length x2)) ((Kx N x4 ((List.getD x2 aX.toNat mI).1)).bind λr6=>cond (!r6) (some ((ck,(c8,(bG,(bG,(dC,(dQ,())))))),(3:Int))) ((Kx N x4 (((List.getD x2 aX.toNat mI).2).1)).bind λr7=>cond (!r7) (some ((ck,(c8,(bG,(bG,(dC,(dQ,())))))),(3:Int))) (cond (dj (List.length x3.1:Int) ((((List.getD x2 aX.toNat mI).2).2).1)) (some ((ck,(c8,(bG,(bG,(dC,(dQ,())))))),(3:Int))) (let v8:Int:=W .i64 (0-(((((List.getD x2 aX.toNat mI).2).2).2).1));cond (small (List.length x9+List.length ([((List.getD x2 aX.toNat mI).1,((((List.getD x2 aX.toNat mI).2).2).1,(((((List.getD x2 aX.toNat mI).2).2).2).1,()))),(((List.getD x2 aX.toNat mI).2).1,((((List.getD x2 aX.toNat mI).2).2).1,(v8,())))]))) (cond (ba ((((List.getD x2 aX.toNat mI).2).2).1) (List.length x4.2.2.2.2.1)) ((QG N (List.getD x2 aX.toNat mI) (List.getD x4.2.2.2.2.1 ((((List.getD x2 aX.toNat mI).2).2).1).toNat (0:Int))).bind λkz=>cond (small (List.length bx+List.length kz.1)) (A9 x2 x3 x4 x6 (x9++([((List.getD x2 aX.toNat mI).1,((((List.getD x2 aX.toNat mI).2).2).1,(((((List.getD x2 aX.toNat mI).2).2).2).1,()))),(((List.getD x2 aX.toNat mI).2).1,((((List.getD x2 aX.toNat mI).2).2).1,(v8,())))])) (bx++kz.1) (W .i64 (aX+1))) (none)) (none)) (none))))) (none)) ((yf N x4 x9 bx).bind λqx=>some (qx.1,qx.2))
def gA.BS(N:Nat):Nat→gA.xj
 |0,_,_,_,_,_,_,_=>none
 |n+1,x2,x3,x4,x6,x9,bx,aX=>gA.y7 N (gA.BS N n) x2 x3 x4 x6 x9 bx aX
def gA.ei(N:Nat)(Oy:gA.xj)(cF:gA.bS)(x2:bK)(x3:ae)(x4:an)(x6:an)(x8:Int):Option (an×(Int)):=
 cond (aY x8 (List.length x2:Int)) (cond (ba x8 (List.length x2)) ((W6 N (List.getD x2 x8.toNat mI)).bind λr3=>cond (!r3) (some ((ck,(c8,(bG,(bG,(dC,(dQ,())))))),(1:Int))) (cF x2 x3 x4 x6 (W .i64 (x8+1)))) (none)) (Oy x2 x3 x4 x6 ([]) ([]) (0:Int))
def gA.l4(N:Nat):Nat→gA.bS
 |0,_,_,_,_,_=>none
 |n+1,x2,x3,x4,x6,x8=>gA.ei N (gA.BS N N) (gA.l4 N n) x2 x3 x4 x6 x8
def gA.b(N:Nat)(fE:gA.bS)(a0:ae)(a1:an)(a2:bK):Option (an×(Int)):=
 (gb N a0 a1).bind λr1=>cond (!r1) (some ((ck,(c8,(bG,(bG,(dC,(dQ,())))))),(1:Int))) (cond (aY 200 (List.length a2:Int)) (some ((ck,(c8,(bG,(bG,(dC,(dQ,())))))),(1:Int))) (fE a2 a0 a1 (ck,(c8,(bG,(bG,(dC,(dQ,())))))) (0:Int)))
def gA(N:Nat)(a0:ae)(a1:an)(a2:bK):Option (an×(Int)):=gA.b N (gA.l4 N N) a0 a1 a2
abbrev ji.JI:=ae→an→gm→an→bs→bK→Int→Option (an×bK×(Int)×(Int))
abbrev ji.Yj:=ae→an→gm→an→Option (an×bK×(Int)×(Int))
def ji.BU(N:Nat)(x3:ae)(x4:an)(x5:gm)(x6:an)(bb:bs)(bV:bK)(cv:Int):Option (an×bK×(Int)×(Int)):=
 (gA N x3 x4 bV).bind λr6=>cond (!aO r6.2 0) (some ((ck,(c8,(bG,(bG,(dC,(dQ,())))))),De,(0:Int),r6.2)) (cond (aY 0 cv) (cond (small (List.length bb+List.length ([(x5.1,(x5.2.1,(x5.2.2.1,(x5.2.2.2.1,(cv,x5.2.2.2.2.2)))))]))) (some ((r6.1.1,(r6.1.2.1,(r6.1.2.2.1,(r6.1.2.2.2.1,(r6.1.2.2.2.2.1,((bb++([(x5.1,(x5.2.1,(x5.2.2.1,(x5.2.2.2.1,(cv,x5.2.2.2.2.2)))))])),r6.1.2.2.2.2.2.2)))))),bV,cv,(0:Int))) (none)) (some ((r6.1.1,(r6.1.2.1,(r6.1.2.2.1,(r6.1.2.2.2.1,(r6.1.2.2.2.2.1,(bb,r6.1.2.2.2.2.2.2)))))),bV,cv,(0:Int))))
def ji.HR(N:Nat)(x3:ae)(x4:an)(x5:gm)(x6:an)(bb:bs)(bV:bK)(cv:Int):Option (an×bK×(Int)×(Int)):=ji.BU N x3 x4 x5 x6 bb bV cv
def ji.Vg(N:Nat)(xi:ji.JI)(x3:ae)(x4:an)(x5:gm)(x6:an):Option (an×bK×(Int)×(Int)):=
 (cg N x4.2.2.2.2.2.1 x5).bind λr4=>cond (aY 0 r4.2.2.1) (cond (aO (List.length r4.1:Int) 32) (some ((ck,(c8,(bG,(bG,(dC,(dQ,())))))),De,(0:Int),(5:Int))) (xi x3 x4 x5 x6 r4.1 r4.2.1 r4.2.2.1)) (xi x3 x4 x5 x6 r4.1 r4.2.1 r4.2.2.1)
def ji.j7(N:Nat)(x3:ae)(x4:an)(x5:gm)(x6:an):Option (an×bK×(Int)×(Int)):=ji.Vg N (ji.HR N) x3 x4 x5 x6
def ji.b(N:Nat)(HX:ji.Yj)(a0:ae)(a1:an)(a2:gm):Option (an×bK×(Int)×(Int)):=
 (Xk N a0 a1 a2).bind λr1=>cond (!aO r1 0) (some ((ck,(c8,(bG,(bG,(dC,(dQ,())))))),De,(0:Int),r1)) (cond (aY 0 (List.length a1.2.2.2.2.2.1:Int)) (let v2:Int:=W .i64 ((List.length a1.2.2.2.2.2.1:Int)-1);cond (ba v2 (List.length a1.2.2.2.2.2.1)) (cond (dj a2.1 ((List.getD a1.2.2.2.2.2.1 v2.toNat fa).1)) (some ((ck,(c8,(bG,(bG,(dC,(dQ,())))))),De,(0:Int),(1:Int))) (HX a0 a1 a2 (ck,(c8,(bG,(bG,(dC,(dQ,())))))))) (none)) (HX a0 a1 a2 (ck,(c8,(bG,(bG,(dC,(dQ,()))))))))
def ji(N:Nat)(a0:ae)(a1:an)(a2:gm):Option (an×bK×(Int)×(Int)):=ji.b N (ji.j7 N) a0 a1 a2
abbrev nG.bM:=bs→Int→Int→bs→Int→Option (bs×(Int))
def nG.ed(N:Nat)(bO:nG.bM)(x0:bs)(x1:Int)(x2:Int)(x8:bs)(x9:Int):Option (bs×(Int)):=
 cond (aY x9 (List.length x0:Int)) (cond (ba x9 (List.length x0)) (cond (!aO ((List.getD x0 x9.toNat fa).1) x2) (cond (ba x9 (List.length x0)) (cond (small (List.length x8+List.length ([List.getD x0 x9.toNat fa]))) (bO x0 x1 x2 (x8++([List.getD x0 x9.toNat fa])) (W .i64 (x9+1))) (none)) (none)) (cond (ba x9 (List.length x0)) (cond (!aO (((List.getD x0 x9.toNat fa).2).1) x1) (cond (ba x9 (List.length x0)) (cond (small (List.length x8+List.length ([List.getD x0 x9.toNat fa]))) (bO x0 x1 x2 (x8++([List.getD x0 x9.toNat fa])) (W .i64 (x9+1))) (none)) (none)) (bO x0 x1 x2 x8 (W .i64 (x9+1)))) (none))) (none)) (cond (aO (List.length x8:Int) (List.length x0:Int)) (some ([],(3:Int))) (some (x8,(0:Int))))
def nG.l5(N:Nat):Nat→nG.bM
 |0,_,_,_,_,_=>none
 |n+1,x0,x1,x2,x8,x9=>nG.ed N (nG.l5 N n) x0 x1 x2 x8 x9
def nG.b(N:Nat)(eW:nG.bM)(a0:bs)(a1:Int)(a2:Int):Option (bs×(Int)):=
 (mL N a0).bind λr1=>cond (!r1) (some ([],(1:Int))) (eW a0 a1 a2 ([]) (0:Int))
def nG(N:Nat)(a0:bs)(a1:Int)(a2:Int):Option (bs×(Int)):=nG.b N (nG.l5 N N) a0 a1 a2
abbrev nH.jD:=au→Int→bE→aH→Int→Option (bE×(Int))
def nH.uw(N:Nat)(kA:nH.jD)(x0:au)(x1:Int)(bx:bE)(aX:aH)(bb:Int):Option (bE×(Int)):=
 cond (aY bb (List.length x0:Int)) (cond (ba bb (List.length x0)) (cond (!aO (((List.getD x0 bb.toNat bl).2).1) x1) (kA x0 x1 bx aX (W .i64 (bb+1))) ((RW N aX).bind λr9=>cond (aO r9 0) (kA x0 x1 bx aX (W .i64 (bb+1))) (cond (ba bb (List.length x0)) ((KH N ((List.getD x0 bb.toNat bl).1)).bind λnL=>cond (ba bb (List.length x0)) ((jz N ((((List.getD x0 bb.toNat bl).2).2).1)).bind λnW=>(jR N nW aX).bind λqx=>cond (small (List.length bx+List.length ([(nL.1,(nL.2,(qx,())))]))) (kA x0 x1 (bx++([(nL.1,(nL.2,(qx,())))])) aX (W .i64 (bb+1))) (none)) (none)) (none)))) (none)) (some (bx,(0:Int)))
def nH.l6(N:Nat):Nat→nH.jD
 |0,_,_,_,_,_=>none
 |n+1,x0,x1,bx,aX,bb=>nH.uw N (nH.l6 N n) x0 x1 bx aX bb
def nH.b(N:Nat)(xd:nH.jD)(a0:au)(a1:Int)(a2:Int)(a3:Int):Option (bE×(Int)):=
 (zi N a0).bind λr1=>cond (!r1) (some ([],(1:Int))) ((Dv N a2).bind λr2=>cond (!r2) (some ([],(1:Int))) ((Dv N a3).bind λr3=>cond (!r3) (some ([],(1:Int))) ((jz N a3).bind λr4=>(jz N a2).bind λr5=>(RV N r4 r5).bind λr6=>xd a0 a1 ([]) r6 (0:Int))))
def nH(N:Nat)(a0:au)(a1:Int)(a2:Int)(a3:Int):Option (bE×(Int)):=nH.b N (nH.l6 N N) a0 a1 a2 a3
def Uo(N:Nat)(a0:ae)(a1:an)(a2:Int)(a3:Int):Option (an×bE×(Int)):=
 (gb N a0 a1).bind λr1=>cond (!r1) (some ((ck,(c8,(bG,(bG,(dC,(dQ,())))))),([]:List ((Int)×((Int)×(((Bool)×((List (Int))×(Unit)))×(Unit))))),(1:Int))) ((Dv N a3).bind λr2=>cond (!r2) (some ((ck,(c8,(bG,(bG,(dC,(dQ,())))))),([]:List ((Int)×((Int)×(((Bool)×((List (Int))×(Unit)))×(Unit))))),(1:Int))) (cond (aY a2 0) (some ((ck,(c8,(bG,(bG,(dC,(dQ,())))))),([]:List ((Int)×((Int)×(((Bool)×((List (Int))×(Unit)))×(Unit))))),(3:Int))) (cond (dj (List.length a0.1:Int) a2) (some ((ck,(c8,(bG,(bG,(dC,(dQ,())))))),([]:List ((Int)×((Int)×(((Bool)×((List (Int))×(Unit)))×(Unit))))),(3:Int))) (cond (ba a2 (List.length a1.2.2.2.2.1)) ((nH N a1.2.2.2.1 a2 (List.getD a1.2.2.2.2.1 a2.toNat (0:Int)) a3).bind λr3=>(yf N a1 bG r3.1).bind λr4=>cond (!aO r4.2 0) (some ((ck,(c8,(bG,(bG,(dC,(dQ,())))))),([]:List ((Int)×((Int)×(((Bool)×((List (Int))×(Unit)))×(Unit))))),r4.2)) (cond (small (List.length dC+List.length a1.2.2.2.2.1)) (let v5:List (Int):=dC++a1.2.2.2.2.1;cond (ba a2 (List.length v5)) (some ((r4.1.1,(r4.1.2.1,(r4.1.2.2.1,(r4.1.2.2.2.1,((List.set v5 a2.toNat a3),r4.1.2.2.2.2.2))))),r3.1,(0:Int))) (none)) (none))) (none)))))
abbrev qb.db:=aE→Int→Option (Bool)
def qb.gH(N:Nat)(eE:qb.db)(x0:aE)(x3:Int):Option (Bool):=
 cond (aY x3 (List.length x0:Int)) (cond (ba x3 (List.length x0)) (cond (aY ((List.getD x0 x3.toNat cD).1) (1:Int)) (some false) (cond (ba x3 (List.length x0)) (cond (aY 24 ((List.getD x0 x3.toNat cD).1)) (some false) (cond (ba x3 (List.length x0)) (cond (aO (((List.getD x0 x3.toNat cD).2).1) (0:Int)) (some false) (cond (aY 0 x3) (cond (ba x3 (List.length x0)) (let v2:Int:=W .i64 (x3-1);cond (ba v2 (List.length x0)) (cond (dj ((List.getD x0 x3.toNat cD).1) ((List.getD x0 v2.toNat cD).1)) (some false) (eE x0 (W .i64 (x3+1)))) (none)) (none)) (eE x0 (W .i64 (x3+1))))) (none))) (none))) (none)) (some true)
def qb.l2(N:Nat):Nat→qb.db
 |0,_,_=>none
 |n+1,x0,x3=>qb.gH N (qb.l2 N n) x0 x3
def qb.b(N:Nat)(jm:qb.db)(a0:aE):Option (Bool):=
 jm a0 (0:Int)
def qb(N:Nat)(a0:aE):Option (Bool):=qb.b N (qb.l2 N N) a0
abbrev eP.xk:=aE→bE→aE→Int→aH→Int→Option (aE×(Int))
abbrev eP.mv:=aE→bE→aE→Int→aH→Int→Option (aE×(Int))
abbrev eP.bM:=aE→bE→aE→Int→Option (aE×(Int))
def eP.FZ(N:Nat)(bO:eP.bM)(Db:eP.xk)(x0:aE)(x1:bE)(x6:aE)(x7:Int)(x8:aH)(bx:Int):Option (aE×(Int)):=
 cond (aY bx (List.length x1:Int)) (cond (ba bx (List.length x1)) (cond (aO ((List.getD x1 bx.toNat ((0:Int),((0:Int),((false,pq),())))).1) (5:Int)) (cond (ba bx (List.length x1)) (cond (aO (((List.getD x1 bx.toNat ((0:Int),((0:Int),((false,pq),())))).2).1) x7) (cond (ba bx (List.length x1)) ((yR N x8 ((((List.getD x1 bx.toNat ((0:Int),((0:Int),((false,pq),())))).2).2).1)).bind λr8=>Db x0 x1 x6 x7 r8 (W .i64 (bx+1))) (none)) (Db x0 x1 x6 x7 x8 (W .i64 (bx+1)))) (none)) (Db x0 x1 x6 x7 x8 (W .i64 (bx+1)))) (none)) ((wH N x8).bind λnW=>cond (!nW.2) (some ([],(2:Int))) (cond (!aO nW.1 0) (cond (small (List.length x6+List.length ([(x7,(nW.1,()))]))) (bO x0 x1 (x6++([(x7,(nW.1,()))])) (W .i64 (x7+1))) (none)) (bO x0 x1 x6 (W .i64 (x7+1)))))
def eP.I1(N:Nat)(bO:eP.bM):Nat→eP.xk
 |0,_,_,_,_,_,_=>none
 |n+1,x0,x1,x6,x7,x8,bx=>eP.FZ N bO (eP.I1 N bO n) x0 x1 x6 x7 x8 bx
def eP.xA(N:Nat)(Oz:eP.xk)(bO:eP.bM)(rN:eP.mv)(x0:aE)(x1:bE)(x6:aE)(x7:Int)(x8:aH)(x9:Int):Option (aE×(Int)):=
 cond (aY x9 (List.length x0:Int)) (cond (ba x9 (List.length x0)) (cond (aO ((List.getD x0 x9.toNat cD).1) x7) (cond (ba x9 (List.length x0)) ((jz N (((List.getD x0 x9.toNat cD).2).1)).bind λr4=>rN x0 x1 x6 x7 r4 (W .i64 (x9+1))) (none)) (rN x0 x1 x6 x7 x8 (W .i64 (x9+1)))) (none)) (Oz x0 x1 x6 x7 x8 (0:Int))
def eP.l9(N:Nat)(bO:eP.bM):Nat→eP.mv
 |0,_,_,_,_,_,_=>none
 |n+1,x0,x1,x6,x7,x8,x9=>eP.xA N (eP.I1 N bO N) bO (eP.l9 N bO n) x0 x1 x6 x7 x8 x9
def eP.ed(N:Nat)(ze:eP.mv)(bO:eP.bM)(x0:aE)(x1:bE)(x6:aE)(x7:Int):Option (aE×(Int)):=
 cond (dj x7 24) (ze x0 x1 x6 x7 (false,pq) (0:Int)) (some (x6,(0:Int)))
def eP.l5(N:Nat):Nat→eP.bM
 |0,_,_,_,_=>none
 |n+1,x0,x1,x6,x7=>eP.ed N (eP.l9 N (eP.l5 N n) N) (eP.l5 N n) x0 x1 x6 x7
def eP.b(N:Nat)(eW:eP.bM)(a0:aE)(a1:bE):Option (aE×(Int)):=
 (qb N a0).bind λr1=>cond (!r1) (some ([],(1:Int))) (eW a0 a1 ([]) (1:Int))
def eP(N:Nat)(a0:aE)(a1:bE):Option (aE×(Int)):=eP.b N (eP.l5 N N) a0 a1
def UB(N:Nat)(a0:aQ)(a1:Int):Option ((Int)×(Bool)):=
 (jz N a0.1).bind λr1=>(jz N a1).bind λr2=>(yR N r1 r2).bind λr3=>(wH N r3).bind λr4=>some (r4.1,r4.2)
def Ul(N:Nat)(a0:Int)(a1:Int):Option ((Int)×(Bool)):=
 cond (aO a0 0) (cond (aO a1 1) (some ((1:Int),true)) (cond (aO a0 1) (cond (aO a1 11) (some ((2:Int),true)) (cond (aO a0 2) (cond (aO a1 12) (some ((1:Int),true)) (cond (aO a0 2) (cond (aO a1 13) (some ((3:Int),true)) (cond (aO a0 3) (cond (aO a1 21) (some ((4:Int),true)) (some ((0:Int),false))) (some ((0:Int),false)))) (cond (aO a0 3) (cond (aO a1 21) (some ((4:Int),true)) (some ((0:Int),false))) (some ((0:Int),false))))) (cond (aO a0 2) (cond (aO a1 13) (some ((3:Int),true)) (cond (aO a0 3) (cond (aO a1 21) (some ((4:Int),true)) (some ((0:Int),false))) (some ((0:Int),false)))) (cond (aO a0 3) (cond (aO a1 21) (some ((4:Int),true)) (some ((0:Int),false))) (some ((0:Int),false)))))) (cond (aO a0 2) (cond (aO a1 12) (some ((1:Int),true)) (cond (aO a0 2) (cond (aO a1 13) (some ((3:Int),true)) (cond (aO a0 3) (cond (aO a1 21) (some ((4:Int),true)) (some ((0:Int),false))) (some ((0:Int),false)))) (cond (aO a0 3) (cond (aO a1 21) (some ((4:Int),true)) (some ((0:Int),false))) (some ((0:Int),false))))) (cond (aO a0 2) (cond (aO a1 13) (some ((3:Int),true)) (cond (aO a0 3) (cond (aO a1 21) (some ((4:Int),true)) (some ((0:Int),false))) (some ((0:Int),false)))) (cond (aO a0 3) (cond (aO a1 21) (some ((4:Int),true)) (some ((0:Int),false))) (some ((0:Int),false))))))) (cond (aO a0 1) (cond (aO a1 11) (some ((2:Int),true)) (cond (aO a0 2) (cond (aO a1 12) (some ((1:Int),true)) (cond (aO a0 2) (cond (aO a1 13) (some ((3:Int),true)) (cond (aO a0 3) (cond (aO a1 21) (some ((4:Int),true)) (some ((0:Int),false))) (some ((0:Int),false)))) (cond (aO a0 3) (cond (aO a1 21) (some ((4:Int),true)) (some ((0:Int),false))) (some ((0:Int),false))))) (cond (aO a0 2) (cond (aO a1 13) (some ((3:Int),true)) (cond (aO a0 3) (cond (aO a1 21) (some ((4:Int),true)) (some ((0:Int),false))) (some ((0:Int),false)))) (cond (aO a0 3) (cond (aO a1 21) (some ((4:Int),true)) (some ((0:Int),false))) (some ((0:Int),false)))))) (cond (aO a0 2) (cond (aO a1 12) (some ((1:Int),true)) (cond (aO a0 2) (cond (aO a1 13) (some ((3:Int),true)) (cond (aO a0 3) (cond (aO a1 21) (some ((4:Int),true)) (some ((0:Int),false))) (some ((0:Int),false)))) (cond (aO a0 3) (cond (aO a1 21) (some ((4:Int),true)) (some ((0:Int),false))) (some ((0:Int),false))))) (cond (aO a0 2) (cond (aO a1 13) (some ((3:Int),true)) (cond (aO a0 3) (cond (aO a1 21) (some ((4:Int),true)) (some ((0:Int),false))) (some ((0:Int),false)))) (cond (aO a0 3) (cond (aO a1 21) (some ((4:Int),true)) (some ((0:Int),false))) (some ((0:Int),false))))))
abbrev lH.xj:=Int→Int→aE→Int→Option (aE×(Int))
def lH.y7(N:Nat)(A9:lH.xj)(x1:Int)(x9:Int)(aX:aE)(bb:Int):Option (aE×(Int)):=
 cond (aY bb (List.length aX:Int)) (cond (ba bb (List.length aX)) (cond (aO ((List.getD aX bb.toNat cD).1) x1) (cond (ba bb (List.length aX)) (A9 x1 x9 (List.set aX bb.toNat ((List.getD aX bb.toNat cD).1,(x9,((List.getD aX bb.toNat cD).2).2))) (W .i64 (bb+1))) (none)) (A9 x1 x9 aX (W .i64 (bb+1)))) (none)) (some (aX,(0:Int)))
def lH.BS(N:Nat):Nat→lH.xj
 |0,_,_,_,_=>none
 |n+1,x1,x9,aX,bb=>lH.y7 N (lH.BS N n) x1 x9 aX bb
def lH.b(N:Nat)(Oy:lH.xj)(a0:aE)(a1:Int)(a2:Int):Option (aE×(Int)):=
 (Bd N a0).bind λr1=>cond (!r1) (some ([],(1:Int))) ((zj N a0 a1).bind λr2=>cond (aO r2 0) (some ([],(3:Int))) ((Ul N r2 a2).bind λr3=>cond (!r3.2) (some ([],(8:Int))) (cond (small (List.length ck+List.length a0)) (Oy a1 r3.1 (ck++a0) (0:Int)) (none))))
def lH(N:Nat)(a0:aE)(a1:Int)(a2:Int):Option (aE×(Int)):=lH.b N (lH.BS N N) a0 a1 a2
abbrev ru.bM:=aK→Int→(List (Int))→Int→Option (List (Int))
def ru.ed(N:Nat)(bO:ru.bM)(x0:aK)(x1:Int)(x5:List (Int))(x6:Int):Option (List (Int)):=
 cond (aY x6 (List.length x0:Int)) (cond (ba x6 (List.length x0)) (cond (aO (((List.getD x0 x6.toNat aV).2).1) x1) (cond (ba x6 (List.length x0)) (cond (small (List.length x5+List.length ([(List.getD x0 x6.toNat aV).1]))) (bO x0 x1 (x5++([(List.getD x0 x6.toNat aV).1])) (W .i64 (x6+1))) (none)) (none)) (bO x0 x1 x5 (W .i64 (x6+1)))) (none)) (some x5)
def ru.l5(N:Nat):Nat→ru.bM
 |0,_,_,_,_=>none
 |n+1,x0,x1,x5,x6=>ru.ed N (ru.l5 N n) x0 x1 x5 x6
def ru.b(N:Nat)(eW:ru.bM)(a0:aK)(a1:Int):Option (List (Int)):=
 (eD N a0).bind λr1=>cond (!r1) (some ([])) (eW a0 a1 ([]) (0:Int))
def ru(N:Nat)(a0:aK)(a1:Int):Option (List (Int)):=ru.b N (ru.l5 N N) a0 a1
abbrev fV.mv:=bs→(List (Int))→bs→Int→Bool→Int→Option bs
abbrev fV.bM:=bs→(List (Int))→bs→Int→Option bs
def fV.xA(N:Nat)(bO:fV.bM)(rN:fV.mv)(x0:bs)(x1:List (Int))(x5:bs)(x6:Int)(x7:Bool)(x8:Int):Option bs:=
 cond (aY x8 (List.length x1:Int)) (cond (x7) (rN x0 x1 x5 x6 true (W .i64 (x8+1))) (cond (ba x8 (List.length x1)) (cond (ba x6 (List.length x0)) (rN x0 x1 x5 x6 (aO (List.getD x1 x8.toNat (0:Int)) (((List.getD x0 x6.toNat fa).2).1)) (W .i64 (x8+1))) (none)) (none))) (cond (!x7) (cond (ba x6 (List.length x0)) (cond (small (List.length x5+List.length ([List.getD x0 x6.toNat fa]))) (bO x0 x1 (x5++([List.getD x0 x6.toNat fa])) (W .i64 (x6+1))) (none)) (none)) (bO x0 x1 x5 (W .i64 (x6+1))))
def fV.l9(N:Nat)(bO:fV.bM):Nat→fV.mv
 |0,_,_,_,_,_,_=>none
 |n+1,x0,x1,x5,x6,x7,x8=>fV.xA N bO (fV.l9 N bO n) x0 x1 x5 x6 x7 x8
def fV.ed(N:Nat)(ze:fV.mv)(bO:fV.bM)(x0:bs)(x1:List (Int))(x5:bs)(x6:Int):Option bs:=
 cond (aY x6 (List.length x0:Int)) (ze x0 x1 x5 x6 false (0:Int)) (some x5)
def fV.l5(N:Nat):Nat→fV.bM
 |0,_,_,_,_=>none
 |n+1,x0,x1,x5,x6=>fV.ed N (fV.l9 N (fV.l5 N n) N) (fV.l5 N n) x0 x1 x5 x6
def fV.b(N:Nat)(eW:fV.bM)(a0:bs)(a1:List (Int)):Option bs:=
 (mL N a0).bind λr1=>cond (!r1) (some ([])) (eW a0 a1 ([]) (0:Int))
def fV(N:Nat)(a0:bs)(a1:List (Int)):Option bs:=fV.b N (fV.l5 N N) a0 a1
def KW(N:Nat)(a0:ae)(a1:an)(a2:Int):Option (an×(Int)):=
 (gb N a0 a1).bind λr1=>cond (!r1) (some ((ck,(c8,(bG,(bG,(dC,(dQ,())))))),(1:Int))) ((Qq N a1.1 a2).bind λr2=>cond (aO r2 0) (some ((ck,(c8,(bG,(bG,(dC,(dQ,())))))),(3:Int))) ((ru N a1.2.1 a2).bind λr3=>(fV N a1.2.2.2.2.2.1 r3).bind λr4=>some ((a1.1,(a1.2.1,(a1.2.2.1,(a1.2.2.2.1,(a1.2.2.2.2.1,(r4,a1.2.2.2.2.2.2)))))),(0:Int))))
def WG(N:Nat)(a0:bI):Option (Bool):=
 cond (dj 1 a0.1) (cond (dj a0.1 1099511627776) (cond (dj 1 a0.2.1) (cond (dj a0.2.1 1099511627776) (cond (dj 1 a0.2.2.1) (cond (dj a0.2.2.1 12) (cond (dj (-1152921504606846976) a0.2.2.2.1) (some (dj a0.2.2.2.1 1152921504606846976)) (some false)) (some false)) (some false)) (some false)) (some false)) (some false)) (some false)
abbrev eF.mv:=aK→Int→Int→Option (Bool)
abbrev eF.Yr:=aK→Int→Option (Bool)
abbrev eF.bS:=aK→Int→Option (Bool)
def eF.xA(N:Nat)(cF:eF.bS)(rN:eF.mv)(x0:aK)(x3:Int)(x4:Int):Option (Bool):=
 cond (aY x4 x3) (cond (ba x4 (List.length x0)) (cond (ba x3 (List.length x0)) (cond (aO ((((List.getD x0 x4.toNat aV).2).2).1) ((((List.getD x0 x3.toNat aV).2).2).1)) (cond (ba x4 (List.length x0)) (cond (ba x3 (List.length x0)) (cond (aO (((List.getD x0 x4.toNat aV).2).1) (((List.getD x0 x3.toNat aV).2).1)) (some false) (rN x0 x3 (W .i64 (x4+1)))) (none)) (none)) (rN x0 x3 (W .i64 (x4+1)))) (none)) (none)) (cF x0 (W .i64 (x3+1)))
def eF.l9(N:Nat)(cF:eF.bS):Nat→eF.mv
 |0,_,_,_=>none
 |n+1,x0,x3,x4=>eF.xA N cF (eF.l9 N cF n) x0 x3 x4
def eF.WX(N:Nat)(ze:eF.mv)(cF:eF.bS)(x0:aK)(x3:Int):Option (Bool):=
 ze x0 x3 (0:Int)
def eF.j8(N:Nat)(cF:eF.bS)(x0:aK)(x3:Int):Option (Bool):=eF.WX N (eF.l9 N cF N) cF x0 x3
def eF.ei(N:Nat)(Ou:eF.Yr)(cF:eF.bS)(x0:aK)(x3:Int):Option (Bool):=
 cond (aY x3 (List.length x0:Int)) (cond (ba x3 (List.length x0)) ((WG N (List.getD x0 x3.toNat aV)).bind λr2=>cond (!r2) (some false) (cond (aY 0 x3) (cond (ba x3 (List.length x0)) (let v3:Int:=W .i64 (x3-1);cond (ba v3 (List.length x0)) (cond (dj ((List.getD x0 x3.toNat aV).1) ((List.getD x0 v3.toNat aV).1)) (some false) (Ou x0 x3)) (none)) (none)) (Ou x0 x3))) (none)) (some true)
def eF.l4(N:Nat):Nat→eF.bS
 |0,_,_=>none
 |n+1,x0,x3=>eF.ei N (eF.j8 N (eF.l4 N n)) (eF.l4 N n) x0 x3
def eF.b(N:Nat)(fE:eF.bS)(a0:aK):Option (Bool):=
 cond (aY 40 (List.length a0:Int)) (some false) (fE a0 (0:Int))
def eF(N:Nat)(a0:aK):Option (Bool):=eF.b N (eF.l4 N N) a0
abbrev pg.bM:=aK→Int→aK→Int→Option aK
def pg.ed(N:Nat)(bO:pg.bM)(x0:aK)(x1:Int)(x5:aK)(x6:Int):Option aK:=
 cond (aY x6 (List.length x0:Int)) (cond (ba x6 (List.length x0)) (cond (!aO ((((List.getD x0 x6.toNat aV).2).2).1) x1) (cond (ba x6 (List.length x0)) (cond (small (List.length x5+List.length ([List.getD x0 x6.toNat aV]))) (bO x0 x1 (x5++([List.getD x0 x6.toNat aV])) (W .i64 (x6+1))) (none)) (none)) (bO x0 x1 x5 (W .i64 (x6+1)))) (none)) (some x5)
def pg.l5(N:Nat):Nat→pg.bM
 |0,_,_,_,_=>none
 |n+1,x0,x1,x5,x6=>pg.ed N (pg.l5 N n) x0 x1 x5 x6
def pg.b(N:Nat)(eW:pg.bM)(a0:aK)(a1:Int):Option aK:=
 (eF N a0).bind λr1=>cond (!r1) (some ([])) (eW a0 a1 ([]) (0:Int))
def pg(N:Nat)(a0:aK)(a1:Int):Option aK:=pg.b N (pg.l5 N N) a0 a1
def aa0(N:Nat)(a0:aQ)(a1:Int):Option (Bool):=
 cond (aO a1 14) (cond (aO a0.2.2.2.1.2.1 1) (some (aY a0.1 a0.2.2.2.1.2.2.1)) (some false)) (cond (aO a1 15) (cond (aO a0.2.2.2.1.2.1 1) (some (dj a0.2.2.2.1.2.2.1 a0.1)) (some false)) (cond (aO a1 19) (cond (aO a0.2.2.2.1.2.1 3) (some (aY a0.1 a0.2.2.2.1.2.2.1)) (some false)) (cond (aO a1 20) (cond (aO a0.2.2.2.1.2.1 3) (some (dj a0.2.2.2.1.2.2.1 a0.1)) (some false)) (some (aO a0.2.2.2.1.2.1 2)))))
def HS(N:Nat)(a0:an)(a1:Int):Option (Int):=
 (Qq N a0.1 a1).bind λr1=>some r1
abbrev lF.bM:=aE→Bool→ae→aH→aH→Int→Option (aH×(Int))
def lF.ed(N:Nat)(bO:lF.bM)(x1:aE)(x2:Bool)(x3:ae)(x6:aH)(x8:aH)(x9:Int):Option (aH×(Int)):=
 cond (aY x9 (List.length x1:Int)) (cond (ba x9 (List.length x1)) (cond (ba ((List.getD x1 x9.toNat cD).1) (List.length x3.1)) (cond (x2) (cond (ba x9 (List.length x1)) (cond (ba ((List.getD x1 x9.toNat cD).1) (List.length x3.1)) (cond (ba x9 (List.length x1)) ((jz N (((List.getD x1 x9.toNat cD).2).1)).bind λr3=>(Wv N r3).bind λr4=>(jz N (((((List.getD x3.1 ((List.getD x1 x9.toNat cD).1).toNat aV).2).2).2).1)).bind λr5=>(jR N r4 r5).bind λr6=>(yR N x8 r6).bind λr7=>bO x1 x2 x3 x6 r7 (W .i64 (x9+1))) (none)) (none)) (none)) (cond (ba x9 (List.length x1)) ((jz N (((List.getD x1 x9.toNat cD).2).1)).bind λr9=>(Wv N r9).bind λkz=>(jz N ((((List.getD x3.1 ((List.getD x1 x9.toNat cD).1).toNat aV).2).2).1)).bind λnL=>(jR N kz nL).bind λnW=>(yR N x8 nW).bind λqx=>bO x1 x2 x3 x6 qx (W .i64 (x9+1))) (none))) (none)) (none)) (some (x8,(0:Int)))
def lF.l5(N:Nat):Nat→lF.bM
 |0,_,_,_,_,_,_=>none
 |n+1,x1,x2,x3,x6,x8,x9=>lF.ed N (lF.l5 N n) x1 x2 x3 x6 x8 x9
def lF.b(N:Nat)(eW:lF.bM)(a0:ae)(a1:aE)(a2:Bool):Option (aH×(Int)):=
 (nn N a0 a1).bind λr1=>cond (!r1) (some ((false,pq),(1:Int))) (eW a1 a2 a0 (false,pq) (false,pq) (0:Int))
def lF(N:Nat)(a0:ae)(a1:aE)(a2:Bool):Option (aH×(Int)):=lF.b N (lF.l5 N N) a0 a1 a2
def ah7(N:Nat)(a0:ae)(a1:aE):Option (aH×(Int)):=
 (lF N a0 a1 false).bind λr1=>some (r1.1,r1.2)
def HK(N:Nat)(a0:an)(a1:Int):Option (Int):=
 (s6 N a0.2.2.1 (5:Int) a1).bind λr1=>some r1
def aaQ(N:Nat)(a0:ae)(a1:an)(a2:Int)(a3:Int)(a4:Int):Option (Int):=
 (gb N a0 a1).bind λr1=>cond (!r1) (some (1:Int)) ((Vi N a1.2.1 a4).bind λr2=>cond (!r2.2) (some (3:Int)) ((HS N a1 a2).bind λr3=>cond (aO r3 0) (some (3:Int)) ((HS N a1 a3).bind λr4=>cond (aO r4 0) (some (3:Int)) (cond (!aO r2.1.2.1 a2) (some (8:Int)) (cond (!aO r2.1.2.2.1 2) (some (8:Int)) ((HS N a1 a3).bind λr5=>cond (!aO r5 1) (some (7:Int)) ((lE N a1.2.2.2.1 a4).bind λr6=>(ah7 N a0 r6).bind λr7=>(HK N a1 a4).bind λr8=>(jz N r8).bind λr9=>(Nj N r9 r7.1).bind λkz=>cond (aY kz 0) (some (10:Int)) (some (0:Int)))))))))
abbrev nF.eO:=Int→Int→aK→Int→Option (aK×(Int))
def nF.kP(N:Nat)(fH:nF.eO)(x2:Int)(x3:Int)(bV:aK)(cv:Int):Option (aK×(Int)):=
 cond (aY cv (List.length bV:Int)) (cond (ba cv (List.length bV)) (cond (aO ((List.getD bV cv.toNat aV).1) x2) (cond (ba cv (List.length bV)) (fH x2 x3 (List.set bV cv.toNat ((List.getD bV cv.toNat aV).1,(x3,((List.getD bV cv.toNat aV).2).2))) (W .i64 (cv+1))) (none)) (fH x2 x3 bV (W .i64 (cv+1)))) (none)) (some (bV,(0:Int)))
def nF.lj(N:Nat):Nat→nF.eO
 |0,_,_,_,_=>none
 |n+1,x2,x3,bV,cv=>nF.kP N (nF.lj N n) x2 x3 bV cv
def nF.b(N:Nat)(rM:nF.eO)(a0:aE)(a1:aK)(a2:Int)(a3:Int):Option (aK×(Int)):=
 (oh N a0 a1).bind λr1=>cond (!r1) (some ([],(1:Int))) ((nQ N a1 a2).bind λr2=>(zj N a0 a3).bind λr3=>cond (!r2.2) (some ([],(3:Int))) (cond (aO r3 0) (some ([],(3:Int))) (cond (!aO r2.1.2.2.1 2) (some ([],(8:Int))) (cond (!aO r3 1) (some ([],(7:Int))) (cond (small (List.length c8+List.length a1)) (rM a2 a3 (c8++a1) (0:Int)) (none))))))
def nF(N:Nat)(a0:aE)(a1:aK)(a2:Int)(a3:Int):Option (aK×(Int)):=nF.b N (nF.lj N N) a0 a1 a2 a3
def Uq(N:Nat)(a0:ae)(a1:an)(a2:Int)(a3:Int)(a4:Int):Option (an×(Int)):=
 (aaQ N a0 a1 a2 a3 a4).bind λr1=>cond (!aO r1 0) (some ((ck,(c8,(bG,(bG,(dC,(dQ,())))))),r1)) ((nF N a1.1 a1.2.1 a4 a3).bind λr2=>cond (!aO r2.2 0) (some ((ck,(c8,(bG,(bG,(dC,(dQ,())))))),r2.2)) (some ((a1.1,(r2.1,a1.2.2)),(0:Int))))
def QD(N:Nat)(a0:ae)(a1:aE):Option (aH×(Int)):=
 (lF N a0 a1 true).bind λr1=>some (r1.1,r1.2)
def F60(N:Nat)(a0:ae)(a1:an)(a2:Int):Option ((Int)×(Int)):=
 (gb N a0 a1).bind λr1=>cond (!r1) (some ((0:Int),(1:Int))) ((Vi N a1.2.1 a2).bind λr2=>cond (!r2.2) (some ((0:Int),(3:Int))) ((lE N a1.2.2.2.1 a2).bind λr3=>(QD N a0 r3).bind λr4=>(HK N a1 a2).bind λr5=>cond (dj r5 0) (some ((0:Int),(0:Int))) ((wH N r4.1).bind λr6=>cond (r6.2) (cond (aY r6.1 r5) (some (r6.1,(0:Int))) (some (r5,(0:Int)))) (some (r5,(0:Int))))))
abbrev iT.bM:=au→Int→Int→au→Int→Option au
def iT.ed(N:Nat)(bO:iT.bM)(x0:au)(x1:Int)(x2:Int)(x7:au)(x8:Int):Option au:=
 cond (aY x8 (List.length x0:Int)) (cond (ba x8 (List.length x0)) (cond (aO ((List.getD x0 x8.toNat bl).1) x1) (cond (ba x8 (List.length x0)) (cond (ba x8 (List.length x0)) (let v3:Int:=W .i64 (0-((((List.getD x0 x8.toNat bl).2).2).1));cond (ba x8 (List.length x0)) (cond (ba x8 (List.length x0)) (cond (small (List.length x7+List.length ([(x1,(((List.getD x0 x8.toNat bl).2).1,(v3,()))),(x2,(((List.getD x0 x8.toNat bl).2).1,((((List.getD x0 x8.toNat bl).2).2).1,())))]))) (bO x0 x1 x2 (x7++([(x1,(((List.getD x0 x8.toNat bl).2).1,(v3,()))),(x2,(((List.getD x0 x8.toNat bl).2).1,((((List.getD x0 x8.toNat bl).2).2).1,())))])) (W .i64 (x8+1))) (none)) (none)) (none)) (none)) (none)) (bO x0 x1 x2 x7 (W .i64 (x8+1)))) (none)) (some x7)
def iT.l5(N:Nat):Nat→iT.bM
 |0,_,_,_,_,_=>none
 |n+1,x0,x1,x2,x7,x8=>iT.ed N (iT.l5 N n) x0 x1 x2 x7 x8
def iT.b(N:Nat)(eW:iT.bM)(a0:au)(a1:Int)(a2:Int):Option au:=
 (zi N a0).bind λr1=>cond (!r1) (some ([])) (cond (aO a1 a2) (some ([])) (cond (aY a1 0) (some ([])) (cond (aY 24 a1) (some ([])) (cond (aY a2 0) (some ([])) (cond (aY 24 a2) (some ([])) (eW a0 a1 a2 ([]) (0:Int)))))))
def iT(N:Nat)(a0:au)(a1:Int)(a2:Int):Option au:=iT.b N (iT.l5 N N) a0 a1 a2
abbrev mR.GO:=Int→ae→an→an→au→bE→Int→bI→Option (an×(Int))
abbrev mR.gQ:=Int→ae→an→an→au→bE→Int→Option (an×(Int))
def mR.uV(N:Nat)(e7:mR.gQ)(x2:Int)(x3:ae)(x4:an)(x6:an)(x8:au)(x9:bE)(bx:Int)(aX:bI):Option (an×(Int)):=
 (HK N x4 aX.1).bind λkz=>cond (aY kz 0) ((jz N kz).bind λnL=>(TK N nL).bind λnW=>(yg N (2:Int) (0:Int) (5:Int) aX.1 nW).bind λqx=>cond (small (List.length x9+List.length qx)) ((iT N x4.2.2.2.1 aX.1 (0:Int)).bind λvA=>cond (small (List.length x8+List.length vA)) (e7 x2 x3 x4 x6 (x8++vA) (x9++qx) (W .i64 (bx+1))) (none)) (none)) ((iT N x4.2.2.2.1 aX.1 (0:Int)).bind λtR=>cond (small (List.length x8+List.length tR)) (e7 x2 x3 x4 x6 (x8++tR) x9 (W .i64 (bx+1))) (none))
def mR.Bf(N:Nat)(e7:mR.gQ)(x2:Int)(x3:ae)(x4:an)(x6:an)(x8:au)(x9:bE)(bx:Int)(aX:bI):Option (an×(Int)):=mR.uV N e7 x2 x3 x4 x6 x8 x9 bx aX
def mR.yd(N:Nat)(vm:mR.GO)(e7:mR.gQ)(x2:Int)(x3:ae)(x4:an)(x6:an)(x8:au)(x9:bE)(bx:Int):Option (an×(Int)):=
 cond (aY bx (List.length x4.2.1:Int)) (cond (ba bx (List.length x4.2.1)) (cond (!aO (((List.getD x4.2.1 bx.toNat aV).2).1) x2) (e7 x2 x3 x4 x6 x8 x9 (W .i64 (bx+1))) (cond (aO ((((List.getD x4.2.1 bx.toNat aV).2).2).1) (2:Int)) ((F60 N x3 x4 ((List.getD x4.2.1 bx.toNat aV).1)).bind λr5=>(jz N r5.1).bind λr6=>(yg N (5:Int) ((List.getD x4.2.1 bx.toNat aV).1) (2:Int) (0:Int) r6).bind λr7=>cond (small (List.length x9+List.length r7)) (vm x2 x3 x4 x6 x8 (x9++r7) bx (List.getD x4.2.1 bx.toNat aV)) (none)) (vm x2 x3 x4 x6 x8 x9 bx (List.getD x4.2.1 bx.toNat aV)))) (none)) ((yf N x4 x8 x9).bind λC8=>some (C8.1,C8.2))
def mR.l8(N:Nat):Nat→mR.gQ
 |0,_,_,_,_,_,_,_=>none
 |n+1,x2,x3,x4,x6,x8,x9,bx=>mR.yd N (mR.Bf N (mR.l8 N n)) (mR.l8 N n) x2 x3 x4 x6 x8 x9 bx
def mR.b(N:Nat)(B8:mR.gQ)(a0:ae)(a1:an)(a2:Int):Option (an×(Int)):=
 (gb N a0 a1).bind λr1=>cond (!r1) (some ((ck,(c8,(bG,(bG,(dC,(dQ,())))))),(1:Int))) ((HS N a1 a2).bind λr2=>cond (aO r2 0) (some ((ck,(c8,(bG,(bG,(dC,(dQ,())))))),(3:Int))) (B8 a2 a0 a1 (ck,(c8,(bG,(bG,(dC,(dQ,())))))) ([]) ([]) (0:Int)))
def mR(N:Nat)(a0:ae)(a1:an)(a2:Int):Option (an×(Int)):=mR.b N (mR.l8 N N) a0 a1 a2
abbrev rq.bM:=ae→an→pf→Int→Option (pf×(Int))
def rq.ed(N:Nat)(bO:rq.bM)(x2:ae)(x3:an)(x6:pf)(x7:Int):Option (pf×(Int)):=
 cond (aY x7 (List.length x2.1:Int)) (cond (ba x7 (List.length x2.1)) (cond (ba ((List.getD x2.1 x7.toNat aV).1) (List.length x6)) ((yZ N x3.2.2.2.1 (0:Int) x7).bind λr4=>(jz N r4).bind λr5=>cond (ba x7 (List.length x3.2.2.2.2.1)) ((jz N (List.getD x3.2.2.2.2.1 x7.toNat (0:Int))).bind λr6=>(jR N r5 r6).bind λr7=>(yR N (List.getD x6 ((List.getD x2.1 x7.toNat aV).1).toNat (false,pq)) r7).bind λr8=>cond (ba ((List.getD x2.1 x7.toNat aV).1) (List.length x6)) (bO x2 x3 (List.set x6 ((List.getD x2.1 x7.toNat aV).1).toNat r8) (W .i64 (x7+1))) (none)) (none)) (none)) (none)) (some (x6,(0:Int)))
def rq.l5(N:Nat):Nat→rq.bM
 |0,_,_,_,_=>none
 |n+1,x2,x3,x6,x7=>rq.ed N (rq.l5 N n) x2 x3 x6 x7
def rq.b(N:Nat)(eW:rq.bM)(a0:ae)(a1:an):Option (pf×(Int)):=
 (gb N a0 a1).bind λr1=>cond (!r1) (some ([],(1:Int))) (cond (jX 4 4) (eW a0 a1 (List.replicate (4:Int).toNat (false,pq)) (0:Int)) (none))
def rq(N:Nat)(a0:ae)(a1:an):Option (pf×(Int)):=rq.b N (rq.l5 N N) a0 a1
abbrev o9.bM:=Int→ae→(List (Int))→Int→Option (List (Int))
def o9.ed(N:Nat)(bO:o9.bM)(x1:Int)(x2:ae)(x5:List (Int))(x6:Int):Option (List (Int)):=
 cond (aY x6 (List.length x2.1:Int)) (cond (ba x6 (List.length x2.1)) (cond (aO ((List.getD x2.1 x6.toNat aV).1) x1) (cond (small (List.length x5+List.length ([x6]))) (bO x1 x2 (x5++([x6])) (W .i64 (x6+1))) (none)) (bO x1 x2 x5 (W .i64 (x6+1)))) (none)) (some x5)
def o9.l5(N:Nat):Nat→o9.bM
 |0,_,_,_,_=>none
 |n+1,x1,x2,x5,x6=>o9.ed N (o9.l5 N n) x1 x2 x5 x6
def o9.b(N:Nat)(eW:o9.bM)(a0:ae)(a1:Int):Option (List (Int)):=
 (lZ N a0).bind λr1=>cond (!r1) (some ([])) (eW a1 a0 ([]) (0:Int))
def o9(N:Nat)(a0:ae)(a1:Int):Option (List (Int)):=o9.b N (o9.l5 N N) a0 a1
abbrev pA.bS:=(List (Int))→(List (Int))→Int→Int→Option ((List (Int))×(Int))
def pA.ei(N:Nat)(cF:pA.bS)(x0:List (Int))(x4:List (Int))(x5:Int)(x6:Int):Option ((List (Int))×(Int)):=
 cond (dj 0 x6) (cond (aY 32 0) (none) (cond (ba x6 (List.length x0)) (let v5:Int:=qL .or .u64 (W .u64 (shl .u64 x5 32)) (List.getD x0 x6.toNat (0:Int));cond (aY 1 0) (none) (cond (ba x6 (List.length x4)) (cF x0 (List.set x4 x6.toNat (shr .u64 v5 1)) (qL .and .u64 v5 1) (W .i64 (x6-1))) (none))) (none))) ((od N x4).bind λkz=>some (kz,x5))
def pA.l4(N:Nat):Nat→pA.bS
 |0,_,_,_,_=>none
 |n+1,x0,x4,x5,x6=>pA.ei N (pA.l4 N n) x0 x4 x5 x6
def pA.b(N:Nat)(fE:pA.bS)(a0:List (Int)):Option ((List (Int))×(Int)):=
 cond (jX (List.length a0:Int) (List.length a0:Int)) (fE a0 (List.replicate (List.length a0:Int).toNat (0:Int)) (0:Int) (W .i64 ((List.length a0:Int)-1))) (none)
def pA(N:Nat)(a0:List (Int)):Option ((List (Int))×(Int)):=pA.b N (pA.l4 N N) a0
abbrev iv.mv:=aH→aH→aH→aH→(List (Int))→aH→aH→Int→Option (aH×aH)
abbrev iv.dT:=aH→aH→aH→aH→(List (Int))→(List (Int))→Option (aH×aH)
def iv.xA(N:Nat)(rN:iv.mv)(x2:aH)(x3:aH)(x4:aH)(x5:aH)(x6:List (Int))(bx:aH)(aX:aH)(bb:Int):Option (aH×aH):=
 cond (dj 0 bb) ((yR N bx bx).bind λr6=>(yR N aX aX).bind λr7=>cond (ba bb (List.length x6)) (cond (aO (List.getD x6 bb.toNat (0:Int)) (1:Int)) ((jz N (1:Int)).bind λr8=>(yR N r7 r8).bind λr9=>(Nj N r9 x3).bind λkz=>cond (dj 0 kz) ((RV N r9 x3).bind λnL=>(jz N (1:Int)).bind λnW=>(yR N r6 nW).bind λqx=>rN x2 x3 x4 x5 x6 qx nL (W .i64 (bb-1))) (rN x2 x3 x4 x5 x6 r6 r9 (W .i64 (bb-1)))) ((Nj N r7 x3).bind λxQ=>cond (dj 0 xQ) ((RV N r7 x3).bind λzb=>(jz N (1:Int)).bind λtR=>(yR N r6 tR).bind λLk=>rN x2 x3 x4 x5 x6 Lk zb (W .i64 (bb-1))) (rN x2 x3 x4 x5 x6 r6 r7 (W .i64 (bb-1))))) (none)) (cond (!x2.1) (some (bx,aX)) ((RW N aX).bind λLi=>cond (aO Li 0) ((TK N bx).bind λBh=>some (Bh,aX)) ((TK N bx).bind λJG=>(jz N (1:Int)).bind λHe=>(RV N JG He).bind λBi=>(RV N x3 aX).bind λLg=>some (Bi,Lg))))
def iv.l9(N:Nat):Nat→iv.mv
 |0,_,_,_,_,_,_,_,_=>none
 |n+1,x2,x3,x4,x5,x6,bx,aX,bb=>iv.xA N (iv.l9 N n) x2 x3 x4 x5 x6 bx aX bb
def iv.nO(N:Nat)(ze:iv.mv)(dp:iv.dT)(x2:aH)(x3:aH)(x4:aH)(x5:aH)(x6:List (Int))(x7:List (Int)):Option (aH×aH):=
 cond (aY 0 (List.length x7:Int)) ((pA N x7).bind λr2=>cond (small (List.length x6+List.length ([r2.2]))) (dp x2 x3 x4 x5 (x6++([r2.2])) r2.1) (none)) (ze x2 x3 x4 x5 x6 (false,pq) (false,pq) (W .i64 ((List.length x6:Int)-1)))
def iv.l3(N:Nat):Nat→iv.dT
 |0,_,_,_,_,_,_=>none
 |n+1,x2,x3,x4,x5,x6,x7=>iv.nO N (iv.l9 N N) (iv.l3 N n) x2 x3 x4 x5 x6 x7
def iv.b(N:Nat)(oD:iv.dT)(a0:aH)(a1:aH):Option (aH×aH):=
 oD a0 a1 (false,pq) (false,pq) ([]) a0.2.1
def iv(N:Nat)(a0:aH)(a1:aH):Option (aH×aH):=iv.b N (iv.l3 N N) a0 a1
abbrev iU.GO:=Int→ae→an→pf→aK→Int→(List (Int))→Int→Option (aK×(Int))
abbrev iU.jD:=Int→ae→an→pf→aK→Int→Option (aK×(Int))
def iU.uV(N:Nat)(kA:iU.jD)(x2:Int)(x3:ae)(x4:an)(x8:pf)(bx:aK)(aX:Int)(bb:List (Int))(eR:Int):Option (aK×(Int)):=
 cond (aO eR 0) (kA x2 x3 x4 x8 bx (W .i64 (aX+1))) (cond (ba 0 (List.length bb)) (cond (ba aX (List.length x8)) ((RW N (List.getD x8 aX.toNat (false,pq))).bind λxe=>cond (aY 0 xe) (cond (small (List.length bx+List.length ([(x2,(List.getD bb (0:Int).toNat (0:Int),((2:Int),(eR,()))))]))) (kA (W .i64 (x2+1)) x3 x4 x8 (bx++([(x2,(List.getD bb (0:Int).toNat (0:Int),((2:Int),(eR,()))))])) (W .i64 (aX+1))) (none)) (cond (small (List.length bx+List.length ([(x2,(List.getD bb (0:Int).toNat (0:Int),((1:Int),(eR,()))))]))) (kA (W .i64 (x2+1)) x3 x4 x8 (bx++([(x2,(List.getD bb (0:Int).toNat (0:Int),((1:Int),(eR,()))))])) (W .i64 (aX+1))) (none))) (none)) (none))
def iU.Bf(N:Nat)(kA:iU.jD)(x2:Int)(x3:ae)(x4:an)(x8:pf)(bx:aK)(aX:Int)(bb:List (Int))(eR:Int):Option (aK×(Int)):=iU.uV N kA x2 x3 x4 x8 bx aX bb eR
def iU.uw(N:Nat)(vm:iU.GO)(kA:iU.jD)(x2:Int)(x3:ae)(x4:an)(x8:pf)(bx:aK)(aX:Int):Option (aK×(Int)):=
 cond (aY aX 4) ((o9 N x3 aX).bind λr3=>cond (ba aX (List.length x8)) ((Wv N (List.getD x8 aX.toNat (false,pq))).bind λr4=>cond (aO (List.length r3:Int) 0) (kA x2 x3 x4 x8 bx (W .i64 (aX+1))) ((jz N x3.2.2.2.2.2.2.1).bind λr6=>(Nj N r4 r6).bind λr7=>cond (dj r7 0) (kA x2 x3 x4 x8 bx (W .i64 (aX+1))) (cond (ba 0 (List.length r3)) (cond (ba (List.getD r3 (0:Int).toNat (0:Int)) (List.length x4.2.2.2.2.1)) ((jz N (List.getD x4.2.2.2.2.1 (List.getD r3 (0:Int).toNat (0:Int)).toNat (0:Int))).bind λr9=>(iv N r4 r9).bind λkz=>(wH N kz.1).bind λnL=>cond (!nL.2) (vm x2 x3 x4 x8 bx aX r3 (1000000000:Int)) (cond (aY 1000000000 nL.1) (vm x2 x3 x4 x8 bx aX r3 (1000000000:Int)) (vm x2 x3 x4 x8 bx aX r3 nL.1))) (none)) (none)))) (none)) (some (bx,(0:Int)))
def iU.l6(N:Nat):Nat→iU.jD
 |0,_,_,_,_,_,_=>none
 |n+1,x2,x3,x4,x8,bx,aX=>iU.uw N (iU.Bf N (iU.l6 N n)) (iU.l6 N n) x2 x3 x4 x8 bx aX
def iU.b(N:Nat)(xd:iU.jD)(a0:ae)(a1:an)(a2:Int):Option (aK×(Int)):=
 (rq N a0 a1).bind λr1=>cond (!aO r1.2 0) (some ([],(1:Int))) (cond (aY a2 1) (some ([],(1:Int))) (cond (aY 1099511627772 a2) (some ([],(1:Int))) (xd a2 a0 a1 r1.1 ([]) (0:Int))))
def iU(N:Nat)(a0:ae)(a1:an)(a2:Int):Option (aK×(Int)):=iU.b N (iU.l6 N N) a0 a1 a2
def aaB(N:Nat)(a0:bI):Option (Bool):=
 cond (dj 1 a0.1) (cond (dj a0.1 1099511627776) (cond (dj 0 a0.2.1) (cond (aY a0.2.1 6) (cond (aO a0.2.2.1 1) (cond (dj 1 a0.2.2.2.1) (some (dj a0.2.2.2.1 1000000000)) (some false)) (cond (aO a0.2.2.1 2) (cond (dj 1 a0.2.2.2.1) (some (dj a0.2.2.2.1 1000000000)) (some false)) (some false))) (some false)) (some false)) (some false)) (some false)
abbrev pI.Yq:=Int→ae→an→bI→an→bI→sW→Option (an×bI×(Int))
def pI.NS(N:Nat)(x4:Int)(x6:ae)(x7:an)(x8:bI)(bb:an)(bV:bI)(fA:sW):Option (an×bI×(Int)):=
 (gA N x6 x7 ([fA])).bind λr6=>cond (!aO r6.2 0) (some ((ck,(c8,(bG,(bG,(dC,(dQ,())))))),aV,r6.2)) (some (r6.1,(x8.1,(x8.2.1,(x8.2.2.1,((W .i64 (x8.2.2.2.1-x4)),x8.2.2.2.2)))),(0:Int)))
def pI.Vj(N:Nat)(x4:Int)(x6:ae)(x7:an)(x8:bI)(bb:an)(bV:bI)(fA:sW):Option (an×bI×(Int)):=pI.NS N x4 x6 x7 x8 bb bV fA
def pI.b(N:Nat)(Ot:pI.Yq)(a0:ae)(a1:an)(a2:bI)(a3:Int)(a4:Int)(a5:Int):Option (an×bI×(Int)):=
 (gb N a0 a1).bind λr1=>cond (!r1) (some ((ck,(c8,(bG,(bG,(dC,(dQ,())))))),aV,(1:Int))) ((aaB N a2).bind λr2=>cond (!r2) (some ((ck,(c8,(bG,(bG,(dC,(dQ,())))))),aV,(1:Int))) (cond (aY a4 1) (some ((ck,(c8,(bG,(bG,(dC,(dQ,())))))),aV,(1:Int))) (cond (aY 1000000000 a4) (some ((ck,(c8,(bG,(bG,(dC,(dQ,())))))),aV,(1:Int))) (cond (aY a5 1) (some ((ck,(c8,(bG,(bG,(dC,(dQ,())))))),aV,(1:Int))) (cond (aY 1000000000000 a5) (some ((ck,(c8,(bG,(bG,(dC,(dQ,())))))),aV,(1:Int))) (cond (aY a2.2.2.2.1 a4) (some ((ck,(c8,(bG,(bG,(dC,(dQ,())))))),aV,(9:Int))) (cond (aY a3 1) (some ((ck,(c8,(bG,(bG,(dC,(dQ,())))))),aV,(1:Int))) (cond (aY 24 a3) (some ((ck,(c8,(bG,(bG,(dC,(dQ,())))))),aV,(1:Int))) ((Xk N a0 a1 (a2.1,(a3,(a2.2.1,((W .i64 ((3:Int)-a2.2.2.1)),(a4,(a5,()))))))).bind λr4=>cond (!aO r4 0) (some ((ck,(c8,(bG,(bG,(dC,(dQ,())))))),aV,r4)) (cond (aO a2.2.2.1 2) (Ot a4 a0 a1 a2 (ck,(c8,(bG,(bG,(dC,(dQ,())))))) aV (a3,((0:Int),(a2.2.1,(a4,(a5,())))))) (Ot a4 a0 a1 a2 (ck,(c8,(bG,(bG,(dC,(dQ,())))))) aV ((0:Int),(a3,(a2.2.1,(a4,(a5,()))))))))))))))))
def pI(N:Nat)(a0:ae)(a1:an)(a2:bI)(a3:Int)(a4:Int)(a5:Int):Option (an×bI×(Int)):=pI.b N (pI.Vj N) a0 a1 a2 a3 a4 a5
abbrev nJ.bM:=ae→aQ→gO→aQ→da→aK→Bool→Int→Int→Option (aQ×da)
def nJ.ed(N:Nat)(bO:nJ.bM)(x3:ae)(x4:aQ)(x5:gO)(x6:aQ)(x7:da)(x8:aK)(x9:Bool)(bx:Int)(aX:Int):Option (aQ×da):=
 cond (aY aX (List.length x4.2.2.2.1.2.2.2.2.1:Int)) (cond (ba aX (List.length x4.2.2.2.1.2.2.2.2.1)) (cond (aO ((List.getD x4.2.2.2.1.2.2.2.2.1 aX.toNat aV).1) x5.2.2.2.2.2.1) ((pI N x3 x4.2.2.1 (List.getD x4.2.2.2.1.2.2.2.2.1 aX.toNat aV) x5.2.2.1 x5.2.2.2.2.2.2.1 x5.2.2.2.2.2.2.2.1).bind λr2=>cond (!aO r2.2.2 0) ((fy N r2.2.2).bind λr3=>some (x4,r3)) (cond (aY 0 r2.2.1.2.2.2.1) (cond (small (List.length x8+List.length ([r2.2.1]))) (bO x3 (x4.1,(x4.2.1,(r2.1,x4.2.2.2))) x5 x6 x7 (x8++([r2.2.1])) true r2.2.1.2.2.2.1 (W .i64 (aX+1))) (none)) (bO x3 (x4.1,(x4.2.1,(r2.1,x4.2.2.2))) x5 x6 x7 x8 true r2.2.1.2.2.2.1 (W .i64 (aX+1))))) (cond (aY 0 (((((List.getD x4.2.2.2.1.2.2.2.2.1 aX.toNat aV).2).2).2).1)) (cond (small (List.length x8+List.length ([List.getD x4.2.2.2.1.2.2.2.2.1 aX.toNat aV]))) (bO x3 x4 x5 x6 x7 (x8++([List.getD x4.2.2.2.1.2.2.2.2.1 aX.toNat aV])) x9 bx (W .i64 (aX+1))) (none)) (bO x3 x4 x5 x6 x7 x8 x9 bx (W .i64 (aX+1))))) (none)) (cond (!x9) ((fy N (3:Int)).bind λkz=>some (x4,kz)) (some ((x4.1,(x4.2.1,(x4.2.2.1,((x4.2.2.2.1.1,(x4.2.2.2.1.2.1,(x4.2.2.2.1.2.2.1,(x4.2.2.2.1.2.2.2.1,(x8,x4.2.2.2.1.2.2.2.2.2))))),x4.2.2.2.2)))),((0:Int),((0:Int),(bx,()))))))
def nJ.l5(N:Nat):Nat→nJ.bM
 |0,_,_,_,_,_,_,_,_,_=>none
 |n+1,x3,x4,x5,x6,x7,x8,x9,bx,aX=>nJ.ed N (nJ.l5 N n) x3 x4 x5 x6 x7 x8 x9 bx aX
def nJ.b(N:Nat)(eW:nJ.bM)(a0:ae)(a1:aQ)(a2:gO):Option (aQ×da):=
 eW a0 a1 a2 ((0:Int),((0:Int),((ck,(c8,(bG,(bG,(dC,(dQ,())))))),(((0:Int),((0:Int),((0:Int),((0:Int),(c8,(([]:List ((Int)×((List ((Int)×((Int)×(Unit))))×((Int)×((Int)×((Int)×((Int)×(Unit)))))))),(c8,(dC,(ck,(ck,())))))))))),(((0:Int),((0:Int),(De,((0:Int),())))),()))))) bl ([]) false (0:Int) (0:Int)
def nJ(N:Nat)(a0:ae)(a1:aQ)(a2:gO):Option (aQ×da):=nJ.b N (nJ.l5 N N) a0 a1 a2
abbrev ry.bS:=Int→aH→Int→Option (Int)
def ry.ei(N:Nat)(cF:ry.bS)(x1:Int)(x2:aH)(x5:Int):Option (Int):=
 cond (aY x5 3) ((jz N x5).bind λr3=>(jz N x1).bind λr4=>(jR N r3 r4).bind λr5=>(Nj N r5 x2).bind λr6=>cond (aY r6 0) (cF x1 x2 (W .i64 (x5+1))) (some x5)) (some x5)
def ry.l4(N:Nat):Nat→ry.bS
 |0,_,_,_=>none
 |n+1,x1,x2,x5=>ry.ei N (ry.l4 N n) x1 x2 x5
def ry.b(N:Nat)(fE:ry.bS)(a0:aH)(a1:Int):Option (Int):=
 (RW N a0).bind λr1=>cond (dj r1 0) (some (0:Int)) (cond (aY a1 1) (some (0:Int)) (fE a1 a0 (1:Int)))
def ry(N:Nat)(a0:aH)(a1:Int):Option (Int):=ry.b N (ry.l4 N N) a0 a1
abbrev pG.bS:=(List (Int))→Int→Option (Bool)
def pG.ei(N:Nat)(cF:pG.bS)(x1:List (Int))(x5:Int):Option (Bool):=
 cond (aY x5 (List.length x1:Int)) (cond (ba x5 (List.length x1)) (cond (aY (List.getD x1 x5.toNat (0:Int)) (0:Int)) (some true) (cF x1 (W .i64 (x5+1)))) (none)) (some false)
def pG.l4(N:Nat):Nat→pG.bS
 |0,_,_=>none
 |n+1,x1,x5=>pG.ei N (pG.l4 N n) x1 x5
def pG.b(N:Nat)(fE:pG.bS)(a0:Int)(a1:List (Int)):Option (Bool):=
 cond (aY a0 0) (some true) (cond (aY 64 (List.length a1:Int)) (some true) (fE a1 (0:Int)))
def pG(N:Nat)(a0:Int)(a1:List (Int)):Option (Bool):=pG.b N (pG.l4 N N) a0 a1
abbrev pz.dT:=(List (Int))→aH→aH→Int→Option aH
def pz.nO(N:Nat)(dp:pz.dT)(x0:List (Int))(x2:aH)(x3:aH)(x4:Int):Option aH:=
 cond (aY x4 (List.length x0:Int)) (cond (ba x4 (List.length x0)) ((jz N (List.getD x0 x4.toNat (0:Int))).bind λr2=>(yR N x3 r2).bind λr3=>dp x0 x2 r3 (W .i64 (x4+1))) (none)) (some x3)
def pz.l3(N:Nat):Nat→pz.dT
 |0,_,_,_,_=>none
 |n+1,x0,x2,x3,x4=>pz.nO N (pz.l3 N n) x0 x2 x3 x4
def pz.b(N:Nat)(oD:pz.dT)(a0:List (Int)):Option aH:=
 oD a0 (false,pq) (false,pq) (0:Int)
def pz(N:Nat)(a0:List (Int)):Option aH:=pz.b N (pz.l3 N N) a0
abbrev fC.Yr:=(List (Int))→(List (Int))→Int→Int→Option (List (Int))
abbrev fC.jD:=(List (Int))→(List (Int))→Int→Int→Option (List (Int))
abbrev fC.dT:=(List (Int))→(List (Int))→Int→Option (List (Int))
def fC.WX(N:Nat)(dp:fC.dT)(x0:List (Int))(x3:List (Int))(x4:Int)(x5:Int):Option (List (Int)):=
 cond (jY 0 x5 (List.length x3:Int) (List.length x3:Int)) (let v5:List (Int):=List.drop (0:Int).toNat (List.take x5.toNat x3);cond (small (List.length v5)) (cond (small (List.length v5+List.length ([x4]))) (let v6:List (Int):=v5++([x4]);cond (jY x5 (List.length x3:Int) (List.length x3:Int) (List.length x3:Int)) (let v7:List (Int):=List.drop x5.toNat (List.take (List.length x3:Int).toNat x3);cond (small (List.length v6+List.length v7)) (dp x0 (v6++v7) (W .i64 (x4+1))) (none)) (none)) (none)) (none)) (none)
def fC.j8(N:Nat)(dp:fC.dT)(x0:List (Int))(x3:List (Int))(x4:Int)(x5:Int):Option (List (Int)):=fC.WX N dp x0 x3 x4 x5
def fC.uw(N:Nat)(Ou:fC.Yr)(dp:fC.dT)(kA:fC.jD)(x0:List (Int))(x3:List (Int))(x4:Int)(x5:Int):Option (List (Int)):=
 cond (aY x5 (List.length x3:Int)) (cond (ba x5 (List.length x3)) (cond (ba (List.getD x3 x5.toNat (0:Int)) (List.length x0)) (cond (ba x4 (List.length x0)) (cond (dj (List.getD x0 x4.toNat (0:Int)) (List.getD x0 (List.getD x3 x5.toNat (0:Int)).toNat (0:Int))) (kA x0 x3 x4 (W .i64 (x5+1))) (Ou x0 x3 x4 x5)) (none)) (none)) (none)) (Ou x0 x3 x4 x5)
def fC.l6(N:Nat)(dp:fC.dT):Nat→fC.jD
 |0,_,_,_,_=>none
 |n+1,x0,x3,x4,x5=>fC.uw N (fC.j8 N dp) dp (fC.l6 N dp n) x0 x3 x4 x5
def fC.nO(N:Nat)(xd:fC.jD)(dp:fC.dT)(x0:List (Int))(x3:List (Int))(x4:Int):Option (List (Int)):=
 cond (aY x4 (List.length x0:Int)) (xd x0 x3 x4 (0:Int)) (some x3)
def fC.l3(N:Nat):Nat→fC.dT
 |0,_,_,_=>none
 |n+1,x0,x3,x4=>fC.nO N (fC.l6 N (fC.l3 N n) N) (fC.l3 N n) x0 x3 x4
def fC.b(N:Nat)(oD:fC.dT)(a0:List (Int)):Option (List (Int)):=
 oD a0 ([]) (0:Int)
def fC(N:Nat)(a0:List (Int)):Option (List (Int)):=fC.b N (fC.l3 N N) a0
abbrev fO.rL:=(List (Int))→Int→(List (Int))→Int→Option ((List (Int))×(Int))
abbrev fO.xk:=Int→(List (Int))→aH→(List (Int))→(List (Int))→Int→Int→Option ((List (Int))×(Int))
abbrev fO.Yt:=Int→(List (Int))→aH→Option ((List (Int))×(Int))
def fO.vx(N:Nat)(GG:fO.rL)(x9:List (Int))(aX:Int)(dN:List (Int))(eR:Int):Option ((List (Int))×(Int)):=
 cond (aY eR (List.length dN:Int)) (cond (aY 0 aX) (cond (ba eR (List.length dN)) (cond (ba (List.getD dN eR.toNat (0:Int)) (List.length x9)) (cond (ba (List.getD dN eR.toNat (0:Int)) (List.length x9)) (GG (List.set x9 (List.getD dN eR.toNat (0:Int)).toNat (W .i64 ((List.getD x9 (List.getD dN eR.toNat (0:Int)).toNat (0:Int))+1))) (W .i64 (aX-1)) dN (W .i64 (eR+1))) (none)) (none)) (none)) (some (x9,(0:Int)))) (some (x9,(0:Int)))
def fO.wT(N:Nat):Nat→fO.rL
 |0,_,_,_,_=>none
 |n+1,x9,aX,dN,eR=>fO.vx N (fO.wT N n) x9 aX dN eR
def fO.FZ(N:Nat)(GH:fO.rL)(Db:fO.xk)(x0:Int)(x1:List (Int))(x6:aH)(x9:List (Int))(bx:List (Int))(aX:Int)(bb:Int):Option ((List (Int))×(Int)):=
 cond (aY bb (List.length x1:Int)) ((jz N x0).bind λkz=>cond (ba bb (List.length x1)) ((jz N (List.getD x1 bb.toNat (0:Int))).bind λnL=>(jR N kz nL).bind λnW=>(iv N nW x6).bind λqx=>(wH N qx.1).bind λxe=>cond (ba bb (List.length x9)) (let v15:List (Int):=List.set x9 bb.toNat xe.1;(wH N qx.2).bind λxQ=>cond (ba bb (List.length bx)) (cond (ba bb (List.length v15)) (Db x0 x1 x6 v15 (List.set bx bb.toNat xQ.1) (W .i64 (aX-(List.getD v15 bb.toNat (0:Int)))) (W .i64 (bb+1))) (none)) (none)) (none)) (none)) ((fC N bx).bind λLh=>GH x9 aX Lh (0:Int))
def fO.I1(N:Nat):Nat→fO.xk
 |0,_,_,_,_,_,_,_=>none
 |n+1,x0,x1,x6,x9,bx,aX,bb=>fO.FZ N (fO.wT N N) (fO.I1 N n) x0 x1 x6 x9 bx aX bb
def fO.TJ(N:Nat)(Oz:fO.xk)(x0:Int)(x1:List (Int))(x6:aH):Option ((List (Int))×(Int)):=
 (wH N x6).bind λr5=>cond (!r5.2) (some ([],(2:Int))) (cond (jX (List.length x1:Int) (List.length x1:Int)) (let v6:List (Int):=List.replicate (List.length x1:Int).toNat (0:Int);cond (jX (List.length x1:Int) (List.length x1:Int)) ((RW N x6).bind λr8=>cond (aO r8 0) (some (v6,(0:Int))) (Oz x0 x1 x6 v6 (List.replicate (List.length x1:Int).toNat (0:Int)) x0 (0:Int))) (none)) (none))
def fO.j6(N:Nat)(x0:Int)(x1:List (Int))(x6:aH):Option ((List (Int))×(Int)):=fO.TJ N (fO.I1 N N) x0 x1 x6
def fO.b(N:Nat)(Lj:fO.Yt)(a0:Int)(a1:List (Int)):Option ((List (Int))×(Int)):=
 (pG N a0 a1).bind λr1=>cond (r1) (some ([],(1:Int))) ((pz N a1).bind λr2=>(RW N r2).bind λr3=>cond (aO r3 0) (cond (!aO a0 0) (some ([],(1:Int))) (Lj a0 a1 r2)) (Lj a0 a1 r2))
def fO(N:Nat)(a0:Int)(a1:List (Int)):Option ((List (Int))×(Int)):=fO.b N (fO.j6 N) a0 a1
abbrev rm.bM:=Int→Int→(List (Int))→Int→Option ((List (Int))×(Int))
def rm.ed(N:Nat)(bO:rm.bM)(x0:Int)(x1:Int)(x6:List (Int))(x7:Int):Option ((List (Int))×(Int)):=
 cond (aY x7 x1) (cond (ba x7 (List.length x6)) (bO x0 x1 (List.set x6 x7.toNat (1:Int)) (W .i64 (x7+1))) (none)) ((fO N x0 x6).bind λr5=>some (r5.1,r5.2))
def rm.l5(N:Nat):Nat→rm.bM
 |0,_,_,_,_=>none
 |n+1,x0,x1,x6,x7=>rm.ed N (rm.l5 N n) x0 x1 x6 x7
def rm.b(N:Nat)(eW:rm.bM)(a0:Int)(a1:Int):Option ((List (Int))×(Int)):=
 cond (aY a0 0) (some ([],(1:Int))) (cond (aY a1 1) (some ([],(1:Int))) (cond (aY 64 a1) (some ([],(1:Int))) (cond (jX a1 a1) (eW a0 a1 (List.replicate a1.toNat (0:Int)) (0:Int)) (none))))
def rm(N:Nat)(a0:Int)(a1:Int):Option ((List (Int))×(Int)):=rm.b N (rm.l5 N N) a0 a1
abbrev bT.ano:=Int→ae→aE→bA→Int→aE→Int→Int→ir→aE→Int→(List (Int))→Option (bA×(Int))
abbrev bT.Yy:=Int→ae→aE→bA→Int→aE→Int→Int→ir→aE→Int→Int→Option (bA×(Int))
abbrev bT.xg:=Int→ae→aE→bA→Int→aE→Int→Int→ir→aE→Int→Option (bA×(Int))
abbrev bT.tT:=Int→ae→aE→bA→Int→aE→Int→Int→Option (bA×(Int))
abbrev bT.eO:=Int→ae→aE→bA→Int→aE→aH→Int→Option (bA×(Int))
abbrev bT.gQ:=Int→ae→aE→bA→Int→Option (bA×(Int))
def bT.ah9(N:Nat)(e7:bT.gQ)(mH:bT.tT)(vn:bT.xg)(x2:Int)(x3:ae)(x8:aE)(x9:bA)(bx:Int)(aX:aE)(cv:Int)(dN:Int)(eR:ir)(u7:aE)(fA:Int)(nP:List (Int)):Option (bA×(Int)):=
 cond (ba dN (List.length nP)) (cond (!aO (List.getD nP dN.toNat (0:Int)) (0:Int)) (cond (ba fA (List.length aX)) (cond (ba dN (List.length nP)) (cond (small (List.length u7+List.length ([((List.getD aX fA.toNat cD).1,(List.getD nP dN.toNat (0:Int),()))]))) (vn x2 x3 x8 x9 bx aX cv dN (eR.1,(ck,eR.2.2)) (u7++([((List.getD aX fA.toNat cD).1,(List.getD nP dN.toNat (0:Int),()))])) (W .i64 (fA+1))) (none)) (none)) (none)) (vn x2 x3 x8 x9 bx aX cv dN eR u7 (W .i64 (fA+1)))) (none)
def bT.j32(N:Nat)(e7:bT.gQ)(mH:bT.tT)(vn:bT.xg)(x2:Int)(x3:ae)(x8:aE)(x9:bA)(bx:Int)(aX:aE)(cv:Int)(dN:Int)(eR:ir)(u7:aE)(fA:Int)(nP:List (Int)):Option (bA×(Int)):=bT.ah9 N e7 mH vn x2 x3 x8 x9 bx aX cv dN eR u7 fA nP
def bT.N1(N:Nat)(agh:bT.ano)(e7:bT.gQ)(mH:bT.tT)(vn:bT.xg)(x2:Int)(x3:ae)(x8:aE)(x9:bA)(bx:Int)(aX:aE)(cv:Int)(dN:Int)(eR:ir)(u7:aE)(fA:Int)(mN:Int):Option (bA×(Int)):=
 (rm N mN cv).bind λxQ=>cond (ba fA (List.length aX)) (cond (aY (((List.getD aX fA.toNat cD).2).1) (0:Int)) (cond (ba dN (List.length xQ.1)) (cond (ba dN (List.length xQ.1)) (agh x2 x3 x8 x9 bx aX cv dN eR u7 fA (List.set xQ.1 dN.toNat (W .i64 (0-(List.getD xQ.1 dN.toNat (0:Int)))))) (none)) (none)) (agh x2 x3 x8 x9 bx aX cv dN eR u7 fA xQ.1)) (none)
def bT.Uu(N:Nat)(e7:bT.gQ)(mH:bT.tT)(vn:bT.xg)(x2:Int)(x3:ae)(x8:aE)(x9:bA)(bx:Int)(aX:aE)(cv:Int)(dN:Int)(eR:ir)(u7:aE)(fA:Int)(mN:Int):Option (bA×(Int)):=bT.N1 N (bT.j32 N e7 mH vn) e7 mH vn x2 x3 x8 x9 bx aX cv dN eR u7 fA mN
def bT.NW(N:Nat)(OA:bT.Yy)(e7:bT.gQ)(mH:bT.tT)(vn:bT.xg)(x2:Int)(x3:ae)(x8:aE)(x9:bA)(bx:Int)(aX:aE)(cv:Int)(dN:Int)(eR:ir)(u7:aE)(fA:Int):Option (bA×(Int)):=
 cond (aY fA (List.length aX:Int)) (cond (ba fA (List.length aX)) (cond (aY (((List.getD aX fA.toNat cD).2).1) (0:Int)) (OA x2 x3 x8 x9 bx aX cv dN eR u7 fA (W .i64 (0-(((List.getD aX fA.toNat cD).2).1)))) (OA x2 x3 x8 x9 bx aX cv dN eR u7 fA (((List.getD aX fA.toNat cD).2).1))) (none)) (cond (aO (List.length u7:Int) 0) (mH x2 x3 x8 x9 bx aX cv (W .i64 (dN+1))) ((QD N x3 u7).bind λJG=>(TK N JG.1).bind λHe=>(wH N He).bind λBi=>cond (!Bi.2) (some ([],(2:Int))) (cond (small (List.length x9+List.length ([(eR.1,(u7,(Bi.1,eR.2.2.2)))]))) (mH (W .i64 (x2+1)) x3 x8 (x9++([(eR.1,(u7,(Bi.1,eR.2.2.2)))])) bx aX cv (W .i64 (dN+1))) (none))))
def bT.LF(N:Nat)(e7:bT.gQ)(mH:bT.tT):Nat→bT.xg
 |0,_,_,_,_,_,_,_,_,_,_,_=>none
 |n+1,x2,x3,x8,x9,bx,aX,cv,dN,eR,u7,fA=>bT.NW N (bT.Uu N e7 mH (bT.LF N e7 mH n)) e7 mH (bT.LF N e7 mH n) x2 x3 x8 x9 bx aX cv dN eR u7 fA
def bT.N0(N:Nat)(Yx:bT.xg)(e7:bT.gQ)(mH:bT.tT)(x2:Int)(x3:ae)(x8:aE)(x9:bA)(bx:Int)(aX:aE)(cv:Int)(dN:Int):Option (bA×(Int)):=
 cond (aY dN cv) (Yx x2 x3 x8 x9 bx aX cv dN (x2,(ck,((0:Int),((1:Int),cD)))) ck (0:Int)) (e7 x2 x3 x8 x9 (W .i64 (bx+1)))
def bT.HT(N:Nat)(e7:bT.gQ):Nat→bT.tT
 |0,_,_,_,_,_,_,_,_=>none
 |n+1,x2,x3,x8,x9,bx,aX,cv,dN=>bT.N0 N (bT.LF N e7 (bT.HT N e7 n) N) e7 (bT.HT N e7 n) x2 x3 x8 x9 bx aX cv dN
def bT.kP(N:Nat)(Yz:bT.tT)(e7:bT.gQ)(fH:bT.eO)(x2:Int)(x3:ae)(x8:aE)(x9:bA)(bx:Int)(aX:aE)(bb:aH)(bV:Int):Option (bA×(Int)):=
 cond (aY bV (List.length x8:Int)) (cond (ba bV (List.length x8)) (cond (ba ((List.getD x8 bV.toNat cD).1) (List.length x3.1)) (cond (aO ((List.getD x3.1 ((List.getD x8 bV.toNat cD).1).toNat aV).1) bx) (cond (ba bV (List.length x8)) (cond (small (List.length aX+List.length ([List.getD x8 bV.toNat cD]))) (cond (ba bV (List.length x8)) ((jz N (((List.getD x8 bV.toNat cD).2).1)).bind λr6=>(Wv N r6).bind λr7=>(yR N bb r7).bind λr8=>fH x2 x3 x8 x9 bx (aX++([List.getD x8 bV.toNat cD])) r8 (W .i64 (bV+1))) (none)) (none)) (none)) (fH x2 x3 x8 x9 bx aX bb (W .i64 (bV+1)))) (none)) (none)) ((ry N bb x3.2.2.2.2.2.1).bind λnL=>Yz x2 x3 x8 x9 bx aX nL (0:Int))
def bT.lj(N:Nat)(e7:bT.gQ):Nat→bT.eO
 |0,_,_,_,_,_,_,_,_=>none
 |n+1,x2,x3,x8,x9,bx,aX,bb,bV=>bT.kP N (bT.HT N e7 N) e7 (bT.lj N e7 n) x2 x3 x8 x9 bx aX bb bV
def bT.yd(N:Nat)(rM:bT.eO)(e7:bT.gQ)(x2:Int)(x3:ae)(x8:aE)(x9:bA)(bx:Int):Option (bA×(Int)):=
 cond (aY bx 4) (rM x2 x3 x8 x9 bx ([]) (false,pq) (0:Int)) (some (x9,(0:Int)))
def bT.l8(N:Nat):Nat→bT.gQ
 |0,_,_,_,_,_=>none
 |n+1,x2,x3,x8,x9,bx=>bT.yd N (bT.lj N (bT.l8 N n) N) (bT.l8 N n) x2 x3 x8 x9 bx
def bT.b(N:Nat)(B8:bT.gQ)(a0:ae)(a1:an)(a2:Int):Option (bA×(Int)):=
 (gb N a0 a1).bind λr1=>cond (!r1) (some ([],(1:Int))) (cond (aY a2 1) (some ([],(1:Int))) (cond (aY 1099511627764 a2) (some ([],(1:Int))) ((lE N a1.2.2.2.1 (0:Int)).bind λr2=>cond (aO (List.length r2:Int) 0) (some ([],(3:Int))) (B8 a2 a0 r2 ([]) (0:Int)))))
def bT(N:Nat)(a0:ae)(a1:an)(a2:Int):Option (bA×(Int)):=bT.b N (bT.l8 N N) a0 a1 a2
abbrev rz.bM:=an→(List (Int))→Int→Option ((List (Int))×(Int))
def rz.ed(N:Nat)(bO:rz.bM)(x3:an)(x6:List (Int))(x7:Int):Option ((List (Int))×(Int)):=
 cond (aY x7 (List.length x3.1:Int)) (cond (ba x7 (List.length x3.1)) (cond (aO (((List.getD x3.1 x7.toNat cD).2).1) (1:Int)) (cond (ba x7 (List.length x3.1)) ((s6 N x3.2.2.1 (6:Int) ((List.getD x3.1 x7.toNat cD).1)).bind λr3=>cond (aY 0 r3) (cond (ba x7 (List.length x3.1)) (cond (small (List.length x6+List.length ([(List.getD x3.1 x7.toNat cD).1]))) (bO x3 (x6++([(List.getD x3.1 x7.toNat cD).1])) (W .i64 (x7+1))) (none)) (none)) (bO x3 x6 (W .i64 (x7+1)))) (none)) (bO x3 x6 (W .i64 (x7+1)))) (none)) (some (x6,(0:Int)))
def rz.l5(N:Nat):Nat→rz.bM
 |0,_,_,_=>none
 |n+1,x3,x6,x7=>rz.ed N (rz.l5 N n) x3 x6 x7
def rz.b(N:Nat)(eW:rz.bM)(a0:ae)(a1:an):Option ((List (Int))×(Int)):=
 (gb N a0 a1).bind λr1=>cond (!r1) (some ([],(1:Int))) (eW a1 ([]) (0:Int))
def rz(N:Nat)(a0:ae)(a1:an):Option ((List (Int))×(Int)):=rz.b N (rz.l5 N N) a0 a1
abbrev iS.Rb:=bA→ae→Int→ir→Option (Bool)
abbrev iS.bS:=bA→ae→Int→Option (Bool)
def iS.Nl(N:Nat)(cF:iS.bS)(x1:bA)(x2:ae)(x5:Int)(x6:ir):Option (Bool):=
 cond (aO x6.2.2.2.1 1) (cond (!aO x6.2.2.2.2.1 0) (some false) (cond (!aO x6.2.2.2.2.2.1 0) (some false) (cF x1 x2 (W .i64 (x5+1))))) (cond (aO x6.2.2.2.1 3) (cond (!aO x6.2.2.2.2.1 0) (some false) (cond (!aO x6.2.2.2.2.2.1 0) (some false) (cF x1 x2 (W .i64 (x5+1))))) (cond (aO x6.2.2.2.1 2) (cond (aY x6.2.2.2.2.1 1) (some false) (cond (aY 12 x6.2.2.2.2.1) (some false) (cond (aY x6.2.2.2.2.2.1 (-1152921504606846976)) (some false) (cond (aY 1152921504606846976 x6.2.2.2.2.2.1) (some false) (cF x1 x2 (W .i64 (x5+1))))))) (some false)))
def iS.j9(N:Nat)(cF:iS.bS)(x1:bA)(x2:ae)(x5:Int)(x6:ir):Option (Bool):=iS.Nl N cF x1 x2 x5 x6
def iS.ei(N:Nat)(GN:iS.Rb)(cF:iS.bS)(x1:bA)(x2:ae)(x5:Int):Option (Bool):=
 cond (aY x5 (List.length x1:Int)) (cond (ba x5 (List.length x1)) (cond (aY ((List.getD x1 x5.toNat ((0:Int),(ck,aV))).1) (1:Int)) (some false) (cond (aY 1099511627776 ((List.getD x1 x5.toNat ((0:Int),(ck,aV))).1)) (some false) (cond (aY 0 x5) (let v3:Int:=W .i64 (x5-1);cond (ba v3 (List.length x1)) (cond (dj ((List.getD x1 x5.toNat ((0:Int),(ck,aV))).1) ((List.getD x1 v3.toNat ((0:Int),(ck,aV))).1)) (some false) (cond (aO (List.length (((List.getD x1 x5.toNat ((0:Int),(ck,aV))).2).1):Int) (0:Int)) (some false) ((nn N x2 (((List.getD x1 x5.toNat ((0:Int),(ck,aV))).2).1)).bind λr4=>cond (!r4) (some false) (cond (aY 0 ((((List.getD x1 x5.toNat ((0:Int),(ck,aV))).2).2).1)) (some false) (GN x1 x2 x5 (List.getD x1 x5.toNat ((0:Int),(ck,aV)))))))) (none)) (cond (aO (List.length (((List.getD x1 x5.toNat ((0:Int),(ck,aV))).2).1):Int) (0:Int)) (some false) ((nn N x2 (((List.getD x1 x5.toNat ((0:Int),(ck,aV))).2).1)).bind λr9=>cond (!r9) (some false) (cond (aY 0 ((((List.getD x1 x5.toNat ((0:Int),(ck,aV))).2).2).1)) (some false) (GN x1 x2 x5 (List.getD x1 x5.toNat ((0:Int),(ck,aV)))))))))) (none)) (some true)
def iS.l4(N:Nat):Nat→iS.bS
 |0,_,_,_=>none
 |n+1,x1,x2,x5=>iS.ei N (iS.j9 N (iS.l4 N n)) (iS.l4 N n) x1 x2 x5
def iS.b(N:Nat)(fE:iS.bS)(a0:ae)(a1:bA):Option (Bool):=
 (lZ N a0).bind λr1=>cond (!r1) (some false) (cond (aY 12 (List.length a1:Int)) (some false) (fE a1 a0 (0:Int)))
def iS(N:Nat)(a0:ae)(a1:bA):Option (Bool):=iS.b N (iS.l4 N N) a0 a1
abbrev qc.db:=bA→Int→ir→Int→Option (ir×(Bool))
def qc.gH(N:Nat)(eE:qc.db)(x0:bA)(x1:Int)(x4:ir)(x6:Int):Option (ir×(Bool)):=
 cond (aY x6 (List.length x0:Int)) (cond (ba x6 (List.length x0)) (cond (aO ((List.getD x0 x6.toNat ((0:Int),(ck,aV))).1) x1) (cond (ba x6 (List.length x0)) (some (List.getD x0 x6.toNat ((0:Int),(ck,aV)),true)) (none)) (eE x0 x1 x4 (W .i64 (x6+1)))) (none)) (some (((0:Int),(ck,aV)),false))
def qc.l2(N:Nat):Nat→qc.db
 |0,_,_,_,_=>none
 |n+1,x0,x1,x4,x6=>qc.gH N (qc.l2 N n) x0 x1 x4 x6
def qc.b(N:Nat)(jm:qc.db)(a0:bA)(a1:Int):Option (ir×(Bool)):=
 jm a0 a1 ((0:Int),(ck,aV)) (0:Int)
def qc(N:Nat)(a0:bA)(a1:Int):Option (ir×(Bool)):=qc.b N (qc.l2 N N) a0 a1
abbrev eQ.jv:=aE→aE→aE→Int→aH→Int→Option (aE×(Bool))
abbrev eQ.fv:=aE→aE→aE→Int→aH→Int→Option (aE×(Bool))
abbrev eQ.dT:=aE→aE→aE→Int→Option (aE×(Bool))
def eQ.pD(N:Nat)(dp:eQ.dT)(lI:eQ.jv)(x0:aE)(x1:aE)(x6:aE)(x7:Int)(x8:aH)(bx:Int):Option (aE×(Bool)):=
 cond (aY bx (List.length x1:Int)) (cond (ba bx (List.length x1)) (cond (aO ((List.getD x1 bx.toNat cD).1) x7) (cond (ba bx (List.length x1)) ((jz N (((List.getD x1 bx.toNat cD).2).1)).bind λr8=>(yR N x8 r8).bind λr9=>lI x0 x1 x6 x7 r9 (W .i64 (bx+1))) (none)) (lI x0 x1 x6 x7 x8 (W .i64 (bx+1)))) (none)) ((Qw N x8).bind λnW=>cond (!nW.2) (some ([],false)) (cond (!aO nW.1 0) (cond (small (List.length x6+List.length ([(x7,(nW.1,()))]))) (dp x0 x1 (x6++([(x7,(nW.1,()))])) (W .i64 (x7+1))) (none)) (dp x0 x1 x6 (W .i64 (x7+1)))))
def eQ.p7(N:Nat)(dp:eQ.dT):Nat→eQ.jv
 |0,_,_,_,_,_,_=>none
 |n+1,x0,x1,x6,x7,x8,bx=>eQ.pD N dp (eQ.p7 N dp n) x0 x1 x6 x7 x8 bx
def eQ.q4(N:Nat)(xf:eQ.jv)(dp:eQ.dT)(eN:eQ.fv)(x0:aE)(x1:aE)(x6:aE)(x7:Int)(x8:aH)(x9:Int):Option (aE×(Bool)):=
 cond (aY x9 (List.length x0:Int)) (cond (ba x9 (List.length x0)) (cond (aO ((List.getD x0 x9.toNat cD).1) x7) (cond (ba x9 (List.length x0)) ((jz N (((List.getD x0 x9.toNat cD).2).1)).bind λr3=>(yR N x8 r3).bind λr4=>eN x0 x1 x6 x7 r4 (W .i64 (x9+1))) (none)) (eN x0 x1 x6 x7 x8 (W .i64 (x9+1)))) (none)) (xf x0 x1 x6 x7 x8 (0:Int))
def eQ.l7(N:Nat)(dp:eQ.dT):Nat→eQ.fv
 |0,_,_,_,_,_,_=>none
 |n+1,x0,x1,x6,x7,x8,x9=>eQ.q4 N (eQ.p7 N dp N) dp (eQ.l7 N dp n) x0 x1 x6 x7 x8 x9
def eQ.nO(N:Nat)(u6:eQ.fv)(dp:eQ.dT)(x0:aE)(x1:aE)(x6:aE)(x7:Int):Option (aE×(Bool)):=
 cond (aY x7 6) (u6 x0 x1 x6 x7 (false,pq) (0:Int)) (some (x6,true))
def eQ.l3(N:Nat):Nat→eQ.dT
 |0,_,_,_,_=>none
 |n+1,x0,x1,x6,x7=>eQ.nO N (eQ.l7 N (eQ.l3 N n) N) (eQ.l3 N n) x0 x1 x6 x7
def eQ.b(N:Nat)(oD:eQ.dT)(a0:aE)(a1:aE):Option (aE×(Bool)):=
 oD a0 a1 ([]) (0:Int)
def eQ(N:Nat)(a0:aE)(a1:aE):Option (aE×(Bool)):=eQ.b N (eQ.l3 N N) a0 a1
def ah8(N:Nat)(a0:bs)(a1:Int):Option au:=
 (mL N a0).bind λr1=>cond (!r1) (some ([])) ((g4 N a0 a1).bind λr2=>some r2)
abbrev kT.eO:=aK→ae→an→bI→ir→Int→Int→Option (Int)
abbrev kT.asn:=bA→aK→ae→an→bI→Option (Int)
def kT.kP(N:Nat)(fH:kT.eO)(x3:aK)(x5:ae)(x6:an)(x9:bI)(bb:ir)(cv:Int)(dN:Int):Option (Int):=
 cond (aY dN (List.length x3:Int)) (cond (ba dN (List.length x3)) (cond (aO ((((List.getD x3 dN.toNat aV).2).2).1) x9.2.2.1) (cond (ba dN (List.length x3)) (cond (aO (((List.getD x3 dN.toNat aV).2).1) x9.2.1) (some (4:Int)) (fH x3 x5 x6 x9 bb cv (W .i64 (dN+1)))) (none)) (fH x3 x5 x6 x9 bb cv (W .i64 (dN+1)))) (none)) (cond (aO (List.length x3:Int) 40) (some (5:Int)) ((jz N x9.2.2.2.1).bind λqx=>(jz N (4:Int)).bind λxe=>(jz N bb.2.2.1).bind λvA=>(jR N xe vA).bind λxQ=>(Nj N qx xQ).bind λzb=>cond (aY zb 0) (some (11:Int)) ((lE N x6.2.2.2.1 cv).bind λtR=>(eQ N tR bb.2.1).bind λLk=>cond (!Lk.2) (some (2:Int)) ((ah8 N x6.2.2.2.2.2.1 cv).bind λLh=>(qa N x5 Lk.1 Lh).bind λC8=>(HK N x6 cv).bind λLi=>(jz N Li).bind λBh=>(jz N x9.2.2.2.1).bind λJG=>(RV N Bh JG).bind λHe=>(Nj N He C8.1).bind λBi=>cond (aY Bi 0) (some (10:Int)) (some (0:Int))))))
def kT.lj(N:Nat):Nat→kT.eO
 |0,_,_,_,_,_,_,_=>none
 |n+1,x3,x5,x6,x9,bb,cv,dN=>kT.kP N (kT.lj N n) x3 x5 x6 x9 bb cv dN
def kT.j3b(N:Nat)(rM:kT.eO)(x2:bA)(x3:aK)(x5:ae)(x6:an)(x9:bI):Option (Int):=
 (HS N x6 x9.2.2.1).bind λr7=>cond (aO r7 0) (some (3:Int)) (cond (!aO r7 1) (some (7:Int)) ((qc N x2 x9.2.1).bind λr8=>(mg N x6.2.1 x9.2.2.1).bind λr9=>cond (!r8.2) (some (3:Int)) (cond (!aO r8.1.2.2.2.1 1) (some (3:Int)) (cond (aO r9 0) (some (3:Int)) (rM x3 x5 x6 x9 r8.1 r9 (0:Int))))))
def kT.j3(N:Nat)(x2:bA)(x3:aK)(x5:ae)(x6:an)(x9:bI):Option (Int):=kT.j3b N (kT.lj N N) x2 x3 x5 x6 x9
def kT.b(N:Nat)(anp:kT.asn)(a0:ae)(a1:an)(a2:bA)(a3:aK)(a4:bI):Option (Int):=
 (gb N a0 a1).bind λr1=>cond (!r1) (some (1:Int)) ((iS N a0 a2).bind λr2=>cond (!r2) (some (1:Int)) ((eF N a3).bind λr3=>cond (!r3) (some (1:Int)) ((WG N a4).bind λr4=>cond (!r4) (some (1:Int)) (cond (aY 0 (List.length a3:Int)) (let v5:Int:=W .i64 ((List.length a3:Int)-1);cond (ba v5 (List.length a3)) (cond (dj a4.1 ((List.getD a3 v5.toNat aV).1)) (some (1:Int)) (anp a2 a3 a0 a1 a4)) (none)) (anp a2 a3 a0 a1 a4)))))
def kT(N:Nat)(a0:ae)(a1:an)(a2:bA)(a3:aK)(a4:bI):Option (Int):=kT.b N (kT.j3 N) a0 a1 a2 a3 a4
def aaS(N:Nat)(a0:ae)(a1:an)(a2:bA)(a3:aK)(a4:bI):Option (aK×(Int)):=
 (kT N a0 a1 a2 a3 a4).bind λr1=>cond (!aO r1 0) (some ([],r1)) (cond (small (List.length c8+List.length a3)) (let v2:List ((Int)×((Int)×((Int)×((Int)×(Unit))))):=c8++a3;cond (small (List.length v2+List.length ([a4]))) (some ((v2++([a4])),(0:Int))) (none)) (none))
abbrev rE.jD:=aK→Int→bI→bI→Bool→Int→Option (bI×(Bool))
def rE.uw(N:Nat)(kA:rE.jD)(x0:aK)(x1:Int)(x4:bI)(x6:bI)(x7:Bool)(x8:Int):Option (bI×(Bool)):=
 cond (aY x8 (List.length x0:Int)) (cond (ba x8 (List.length x0)) (cond (aO (((List.getD x0 x8.toNat aV).2).1) x1) (cond (!x7) (cond (ba x8 (List.length x0)) (kA x0 x1 x4 (List.getD x0 x8.toNat aV) true (W .i64 (x8+1))) (none)) (cond (ba x8 (List.length x0)) (cond (aY x6.2.2.2.1 (((((List.getD x0 x8.toNat aV).2).2).2).1)) (cond (ba x8 (List.length x0)) (kA x0 x1 x4 (List.getD x0 x8.toNat aV) true (W .i64 (x8+1))) (none)) (kA x0 x1 x4 x6 x7 (W .i64 (x8+1)))) (none))) (kA x0 x1 x4 x6 x7 (W .i64 (x8+1)))) (none)) (some (x6,x7))
def rE.l6(N:Nat):Nat→rE.jD
 |0,_,_,_,_,_,_=>none
 |n+1,x0,x1,x4,x6,x7,x8=>rE.uw N (rE.l6 N n) x0 x1 x4 x6 x7 x8
def rE.b(N:Nat)(xd:rE.jD)(a0:aK)(a1:Int):Option (bI×(Bool)):=
 (eF N a0).bind λr1=>cond (!r1) (some (aV,false)) (xd a0 a1 aV aV false (0:Int))
def rE(N:Nat)(a0:aK)(a1:Int):Option (bI×(Bool)):=rE.b N (rE.l6 N N) a0 a1
abbrev fK.rL:=bA→aK→an→an→au→bE→bA→Int→ir→bI→Int→Int→Option (an×bA×(Int))
abbrev fK.fv:=bA→aK→an→an→au→bE→bA→Int→Option (an×bA×(Int))
def fK.vx(N:Nat)(eN:fK.fv)(GG:fK.rL)(x2:bA)(x3:aK)(x5:an)(x8:an)(aX:au)(bb:bE)(bV:bA)(cv:Int)(dN:ir)(eR:bI)(mN:Int)(nP:Int):Option (an×bA×(Int)):=
 cond (aY nP (List.length dN.2.1:Int)) (cond (ba nP (List.length dN.2.1)) (cond (ba nP (List.length dN.2.1)) (let v14:Int:=W .i64 (0-(((List.getD dN.2.1 nP.toNat cD).2).1));cond (ba nP (List.length dN.2.1)) (cond (ba nP (List.length dN.2.1)) (cond (small (List.length aX+List.length ([((0:Int),((List.getD dN.2.1 nP.toNat cD).1,(v14,()))),(mN,((List.getD dN.2.1 nP.toNat cD).1,(((List.getD dN.2.1 nP.toNat cD).2).1,())))]))) (GG x2 x3 x5 x8 (aX++([((0:Int),((List.getD dN.2.1 nP.toNat cD).1,(v14,()))),(mN,((List.getD dN.2.1 nP.toNat cD).1,(((List.getD dN.2.1 nP.toNat cD).2).1,())))])) bb bV cv dN eR mN (W .i64 (nP+1))) (none)) (none)) (none)) (none)) (none)) ((jz N eR.2.2.2.1).bind λzb=>(yg N (5:Int) mN (2:Int) (0:Int) zb).bind λtR=>cond (small (List.length bb+List.length tR)) (cond (small (List.length bV+List.length ([dN]))) (eN x2 x3 x5 x8 aX (bb++tR) (bV++([dN])) (W .i64 (cv+1))) (none)) (none))
def fK.wT(N:Nat)(eN:fK.fv):Nat→fK.rL
 |0,_,_,_,_,_,_,_,_,_,_,_,_=>none
 |n+1,x2,x3,x5,x8,aX,bb,bV,cv,dN,eR,mN,nP=>fK.vx N eN (fK.wT N eN n) x2 x3 x5 x8 aX bb bV cv dN eR mN nP
def fK.q4(N:Nat)(GH:fK.rL)(eN:fK.fv)(x2:bA)(x3:aK)(x5:an)(x8:an)(aX:au)(bb:bE)(bV:bA)(cv:Int):Option (an×bA×(Int)):=
 cond (aY cv (List.length x2:Int)) (cond (ba cv (List.length x2)) (cond (small (List.length ck+List.length (((List.getD x2 cv.toNat ((0:Int),(ck,aV))).2).1))) (let v5:List ((Int)×((Int)×(Unit))):=ck++(((List.getD x2 cv.toNat ((0:Int),(ck,aV))).2).1);cond (!aO (((((List.getD x2 cv.toNat ((0:Int),(ck,aV))).2).2).2).1) (1:Int)) (cond (small (List.length bV+List.length ([((List.getD x2 cv.toNat ((0:Int),(ck,aV))).1,(v5,((List.getD x2 cv.toNat ((0:Int),(ck,aV))).2).2))]))) (eN x2 x3 x5 x8 aX bb (bV++([((List.getD x2 cv.toNat ((0:Int),(ck,aV))).1,(v5,((List.getD x2 cv.toNat ((0:Int),(ck,aV))).2).2))])) (W .i64 (cv+1))) (none)) ((rE N x3 ((List.getD x2 cv.toNat ((0:Int),(ck,aV))).1)).bind λr8=>cond (!r8.2) (cond (small (List.length bV+List.length ([((List.getD x2 cv.toNat ((0:Int),(ck,aV))).1,(v5,((((List.getD x2 cv.toNat ((0:Int),(ck,aV))).2).2).1,((3:Int),((((List.getD x2 cv.toNat ((0:Int),(ck,aV))).2).2).2).2))))]))) (eN x2 x3 x5 x8 aX bb (bV++([((List.getD x2 cv.toNat ((0:Int),(ck,aV))).1,(v5,((((List.getD x2 cv.toNat ((0:Int),(ck,aV))).2).2).1,((3:Int),((((List.getD x2 cv.toNat ((0:Int),(ck,aV))).2).2).2).2))))])) (W .i64 (cv+1))) (none)) ((mg N x5.2.1 r8.1.2.2.1).bind λnL=>cond (aO nL 0) (some ((ck,(c8,(bG,(bG,(dC,(dQ,())))))),[],(3:Int))) ((HS N x5 r8.1.2.2.1).bind λnW=>cond (aO nW 0) (some ((ck,(c8,(bG,(bG,(dC,(dQ,())))))),[],(3:Int))) (GH x2 x3 x5 x8 aX bb bV cv ((List.getD x2 cv.toNat ((0:Int),(ck,aV))).1,(v5,((((List.getD x2 cv.toNat ((0:Int),(ck,aV))).2).2).1,((2:Int),(r8.1.2.2.1,(r8.1.2.2.2.1,((((((List.getD x2 cv.toNat ((0:Int),(ck,aV))).2).2).2).2).2).2)))))) r8.1 nL (0:Int)))))) (none)) (none)) ((yf N x5 aX bb).bind λLi=>cond (!aO Li.2 0) (some ((ck,(c8,(bG,(bG,(dC,(dQ,())))))),[],Li.2)) (some (Li.1,bV,(0:Int))))
def fK.l7(N:Nat):Nat→fK.fv
 |0,_,_,_,_,_,_,_,_=>none
 |n+1,x2,x3,x5,x8,aX,bb,bV,cv=>fK.q4 N (fK.wT N (fK.l7 N n) N) (fK.l7 N n) x2 x3 x5 x8 aX bb bV cv
def fK.b(N:Nat)(u6:fK.fv)(a0:ae)(a1:an)(a2:bA)(a3:aK):Option (an×bA×(Int)):=
 (gb N a0 a1).bind λr1=>cond (!r1) (some ((ck,(c8,(bG,(bG,(dC,(dQ,())))))),[],(1:Int))) ((iS N a0 a2).bind λr2=>cond (!r2) (some ((ck,(c8,(bG,(bG,(dC,(dQ,())))))),[],(1:Int))) ((eF N a3).bind λr3=>cond (!r3) (some ((ck,(c8,(bG,(bG,(dC,(dQ,())))))),[],(1:Int))) (u6 a2 a3 a1 (ck,(c8,(bG,(bG,(dC,(dQ,())))))) ([]) ([]) ([]) (0:Int))))
def fK(N:Nat)(a0:ae)(a1:an)(a2:bA)(a3:aK):Option (an×bA×(Int)):=fK.b N (fK.l7 N N) a0 a1 a2 a3
abbrev ph.db:=aE→Int→Option (Bool)
def ph.gH(N:Nat)(eE:ph.db)(x0:aE)(x3:Int):Option (Bool):=
 cond (aY x3 (List.length x0:Int)) (cond (ba x3 (List.length x0)) (cond (aY ((List.getD x0 x3.toNat cD).1) (1:Int)) (some false) (cond (ba x3 (List.length x0)) (cond (aY 12 ((List.getD x0 x3.toNat cD).1)) (some false) (cond (ba x3 (List.length x0)) (cond (aY (((List.getD x0 x3.toNat cD).2).1) (1:Int)) (some false) (cond (ba x3 (List.length x0)) (cond (aY 4 (((List.getD x0 x3.toNat cD).2).1)) (some false) (cond (aY 0 x3) (cond (ba x3 (List.length x0)) (let v2:Int:=W .i64 (x3-1);cond (ba v2 (List.length x0)) (cond (dj ((List.getD x0 x3.toNat cD).1) ((List.getD x0 v2.toNat cD).1)) (some false) (eE x0 (W .i64 (x3+1)))) (none)) (none)) (eE x0 (W .i64 (x3+1))))) (none))) (none))) (none))) (none)) (some true)
def ph.l2(N:Nat):Nat→ph.db
 |0,_,_=>none
 |n+1,x0,x3=>ph.gH N (ph.l2 N n) x0 x3
def ph.b(N:Nat)(jm:ph.db)(a0:aE):Option (Bool):=
 jm a0 (0:Int)
def ph(N:Nat)(a0:aE):Option (Bool):=ph.b N (ph.l2 N N) a0
abbrev rA.db:=(List (Int))→Int→Option (Bool)
def rA.gH(N:Nat)(eE:rA.db)(x0:List (Int))(x3:Int):Option (Bool):=
 cond (aY x3 (List.length x0:Int)) (cond (ba x3 (List.length x0)) (cond (aY (List.getD x0 x3.toNat (0:Int)) (1:Int)) (some false) (cond (ba x3 (List.length x0)) (cond (aY 12 (List.getD x0 x3.toNat (0:Int))) (some false) (cond (aY 0 x3) (cond (ba x3 (List.length x0)) (let v2:Int:=W .i64 (x3-1);cond (ba v2 (List.length x0)) (cond (dj (List.getD x0 x3.toNat (0:Int)) (List.getD x0 v2.toNat (0:Int))) (some false) (eE x0 (W .i64 (x3+1)))) (none)) (none)) (eE x0 (W .i64 (x3+1))))) (none))) (none)) (some true)
def rA.l2(N:Nat):Nat→rA.db
 |0,_,_=>none
 |n+1,x0,x3=>rA.gH N (rA.l2 N n) x0 x3
def rA.b(N:Nat)(jm:rA.db)(a0:List (Int)):Option (Bool):=
 jm a0 (0:Int)
def rA(N:Nat)(a0:List (Int)):Option (Bool):=rA.b N (rA.l2 N N) a0
abbrev jt.jv:=Int→bA→Int→Int→Option (Int)
abbrev jt.dT:=Int→bA→aK→Int→Int→Option (Int)
def jt.pD(N:Nat)(lI:jt.jv)(x0:Int)(x1:bA)(x7:Int)(bb:Int):Option (Int):=
 cond (aY bb (List.length x1:Int)) (cond (ba bb (List.length x1)) (cond (aO (((((List.getD x1 bb.toNat ((0:Int),(ck,aV))).2).2).2).1) (2:Int)) (cond (ba bb (List.length x1)) (cond (aO ((((((List.getD x1 bb.toNat ((0:Int),(ck,aV))).2).2).2).2).1) x0) (lI x0 x1 (4:Int) (W .i64 (bb+1))) (lI x0 x1 x7 (W .i64 (bb+1)))) (none)) (lI x0 x1 x7 (W .i64 (bb+1)))) (none)) (some x7)
def jt.p7(N:Nat):Nat→jt.jv
 |0,_,_,_,_=>none
 |n+1,x0,x1,x7,bb=>jt.pD N (jt.p7 N n) x0 x1 x7 bb
def jt.nO(N:Nat)(xf:jt.jv)(dp:jt.dT)(x0:Int)(x1:bA)(x2:aK)(x7:Int)(x8:Int):Option (Int):=
 cond (aY x8 (List.length x2:Int)) (cond (ba x8 (List.length x2)) (cond (!aO ((((List.getD x2 x8.toNat aV).2).2).1) x0) (dp x0 x1 x2 x7 (W .i64 (x8+1))) (cond (ba x8 (List.length x2)) ((qc N x1 (((List.getD x2 x8.toNat aV).2).1)).bind λr3=>cond (r3.2) (cond (ba x8 (List.length x2)) (cond (dj r3.1.2.2.1 (((((List.getD x2 x8.toNat aV).2).2).2).1)) (dp x0 x1 x2 (mx x7 3) (W .i64 (x8+1))) (dp x0 x1 x2 (mx x7 2) (W .i64 (x8+1)))) (none)) (dp x0 x1 x2 (mx x7 2) (W .i64 (x8+1)))) (none))) (none)) (xf x0 x1 x7 (0:Int))
def jt.l3(N:Nat):Nat→jt.dT
 |0,_,_,_,_,_=>none
 |n+1,x0,x1,x2,x7,x8=>jt.nO N (jt.p7 N N) (jt.l3 N n) x0 x1 x2 x7 x8
def jt.b(N:Nat)(oD:jt.dT)(a0:Int)(a1:bA)(a2:aK):Option (Int):=
 oD a0 a1 a2 (1:Int) (0:Int)
def jt(N:Nat)(a0:Int)(a1:bA)(a2:aK):Option (Int):=jt.b N (jt.l3 N N) a0 a1 a2
abbrev dw.xh:=aE→(List (Int))→bA→aK→aE→Int→Int→Bool→Int→Option (aE×(Int))
abbrev dw.xk:=aE→(List (Int))→bA→aK→aE→Int→Int→Bool→Int→Option (aE×(Int))
abbrev dw.mv:=aE→(List (Int))→bA→aK→aE→Int→Int→Bool→Int→Option (aE×(Int))
abbrev dw.bM:=aE→(List (Int))→bA→aK→aE→Int→Option (aE×(Int))
def dw.DE(N:Nat)(bO:dw.bM)(GR:dw.xh)(x1:aE)(x2:List (Int))(x3:bA)(x4:aK)(bb:aE)(bV:Int)(cv:Int)(dN:Bool)(mN:Int):Option (aE×(Int)):=
 cond (aY mN (List.length x4:Int)) (cond (dN) (GR x1 x2 x3 x4 bb bV cv true (W .i64 (mN+1))) (cond (ba mN (List.length x4)) (GR x1 x2 x3 x4 bb bV cv (aO ((((List.getD x4 mN.toNat aV).2).2).1) bV) (W .i64 (mN+1))) (none))) (cond (dN) ((jt N bV x3 x4).bind λvA=>let Ys:Int:=mx cv vA;cond (small (List.length bb+List.length ([(bV,(Ys,()))]))) (bO x1 x2 x3 x4 (bb++([(bV,(Ys,()))])) (W .i64 (bV+1))) (none)) (bO x1 x2 x3 x4 bb (W .i64 (bV+1))))
def dw.Hc(N:Nat)(bO:dw.bM):Nat→dw.xh
 |0,_,_,_,_,_,_,_,_,_=>none
 |n+1,x1,x2,x3,x4,bb,bV,cv,dN,mN=>dw.DE N bO (dw.Hc N bO n) x1 x2 x3 x4 bb bV cv dN mN
def dw.FZ(N:Nat)(Ow:dw.xh)(bO:dw.bM)(Db:dw.xk)(x1:aE)(x2:List (Int))(x3:bA)(x4:aK)(bb:aE)(bV:Int)(cv:Int)(dN:Bool)(fA:Int):Option (aE×(Int)):=
 cond (aY fA (List.length x2:Int)) (cond (dN) (Db x1 x2 x3 x4 bb bV cv true (W .i64 (fA+1))) (cond (ba fA (List.length x2)) (Db x1 x2 x3 x4 bb bV cv (aO (List.getD x2 fA.toNat (0:Int)) bV) (W .i64 (fA+1))) (none))) (Ow x1 x2 x3 x4 bb bV cv dN (0:Int))
def dw.I1(N:Nat)(bO:dw.bM):Nat→dw.xk
 |0,_,_,_,_,_,_,_,_,_=>none
 |n+1,x1,x2,x3,x4,bb,bV,cv,dN,fA=>dw.FZ N (dw.Hc N bO N) bO (dw.I1 N bO n) x1 x2 x3 x4 bb bV cv dN fA
def dw.xA(N:Nat)(Oz:dw.xk)(bO:dw.bM)(rN:dw.mv)(x1:aE)(x2:List (Int))(x3:bA)(x4:aK)(bb:aE)(bV:Int)(cv:Int)(dN:Bool)(eR:Int):Option (aE×(Int)):=
 cond (aY eR (List.length x1:Int)) (cond (ba eR (List.length x1)) (cond (aO ((List.getD x1 eR.toNat cD).1) bV) (cond (ba eR (List.length x1)) (rN x1 x2 x3 x4 bb bV (((List.getD x1 eR.toNat cD).2).1) true (W .i64 (eR+1))) (none)) (rN x1 x2 x3 x4 bb bV cv dN (W .i64 (eR+1)))) (none)) (Oz x1 x2 x3 x4 bb bV cv dN (0:Int))
def dw.l9(N:Nat)(bO:dw.bM):Nat→dw.mv
 |0,_,_,_,_,_,_,_,_,_=>none
 |n+1,x1,x2,x3,x4,bb,bV,cv,dN,eR=>dw.xA N (dw.I1 N bO N) bO (dw.l9 N bO n) x1 x2 x3 x4 bb bV cv dN eR
def dw.ed(N:Nat)(ze:dw.mv)(bO:dw.bM)(x1:aE)(x2:List (Int))(x3:bA)(x4:aK)(bb:aE)(bV:Int):Option (aE×(Int)):=
 cond (dj bV 12) (ze x1 x2 x3 x4 bb bV (0:Int) false (0:Int)) (some (bb,(0:Int)))
def dw.l5(N:Nat):Nat→dw.bM
 |0,_,_,_,_,_,_=>none
 |n+1,x1,x2,x3,x4,bb,bV=>dw.ed N (dw.l9 N (dw.l5 N n) N) (dw.l5 N n) x1 x2 x3 x4 bb bV
def dw.b(N:Nat)(eW:dw.bM)(a0:ae)(a1:aE)(a2:List (Int))(a3:bA)(a4:aK):Option (aE×(Int)):=
 (ph N a1).bind λr1=>cond (!r1) (some ([],(1:Int))) ((rA N a2).bind λr2=>cond (!r2) (some ([],(1:Int))) ((iS N a0 a3).bind λr3=>cond (!r3) (some ([],(1:Int))) ((eF N a4).bind λr4=>cond (!r4) (some ([],(1:Int))) (eW a1 a2 a3 a4 ([]) (1:Int)))))
def dw(N:Nat)(a0:ae)(a1:aE)(a2:List (Int))(a3:bA)(a4:aK):Option (aE×(Int)):=dw.b N (dw.l5 N N) a0 a1 a2 a3 a4
def KZ(N:Nat)(a0:bK)(a1:an)(a2:Int)(a3:Int)(a4:Int):Option bK:=
 (s6 N a1.2.2.1 a3 a4).bind λr1=>cond (aY 0 r1) (cond (small (List.length a0+List.length ([(a2,(a3,(a4,(r1,((0:Int),())))))]))) (some (a0++([(a2,(a3,(a4,(r1,((0:Int),())))))]))) (none)) (some a0)
def XD(N:Nat)(a0:Int):Option (Bool):=
 cond (aO a0 1) (some true) (some (aO a0 2))
abbrev rB.bS:=aE→Int→Int→Option (Int)
def rB.ei(N:Nat)(cF:rB.bS)(x0:aE)(x1:Int)(x5:Int):Option (Int):=
 cond (aY x5 (List.length x0:Int)) (cond (ba x5 (List.length x0)) (cond (aO ((List.getD x0 x5.toNat cD).1) x1) (cond (ba x5 (List.length x0)) (some (((List.getD x0 x5.toNat cD).2).1)) (none)) (cF x0 x1 (W .i64 (x5+1)))) (none)) (some (1:Int))
def rB.l4(N:Nat):Nat→rB.bS
 |0,_,_,_=>none
 |n+1,x0,x1,x5=>rB.ei N (rB.l4 N n) x0 x1 x5
def rB.b(N:Nat)(fE:rB.bS)(a0:aE)(a1:Int):Option (Int):=
 (ph N a0).bind λr1=>cond (!r1) (some (0:Int)) (fE a0 a1 (0:Int))
def rB(N:Nat)(a0:aE)(a1:Int):Option (Int):=rB.b N (rB.l4 N N) a0 a1
abbrev rC.bM:=aE→Int→Int→an→(List (Int))→Int→Option ((List (Int))×(Int))
def rC.ed(N:Nat)(bO:rC.bM)(x2:aE)(x3:Int)(x4:Int)(x6:an)(bb:List (Int))(bV:Int):Option ((List (Int))×(Int)):=
 cond (aY bV (List.length x6.1:Int)) (cond (ba bV (List.length x6.1)) ((XD N (((List.getD x6.1 bV.toNat cD).2).1)).bind λr4=>cond (r4) (cond (!aO ((List.getD x6.1 bV.toNat cD).1) x3) ((s6 N x6.2.2.1 (6:Int) ((List.getD x6.1 bV.toNat cD).1)).bind λr5=>cond (aY 0 r5) ((rB N x2 ((List.getD x6.1 bV.toNat cD).1)).bind λr6=>cond (aO r6 x4) (cond (small (List.length bb+List.length ([(List.getD x6.1 bV.toNat cD).1]))) (bO x2 x3 x4 x6 (bb++([(List.getD x6.1 bV.toNat cD).1])) (W .i64 (bV+1))) (none)) (bO x2 x3 x4 x6 bb (W .i64 (bV+1)))) (bO x2 x3 x4 x6 bb (W .i64 (bV+1)))) (bO x2 x3 x4 x6 bb (W .i64 (bV+1)))) (bO x2 x3 x4 x6 bb (W .i64 (bV+1)))) (none)) (some (bb,(0:Int)))
def rC.l5(N:Nat):Nat→rC.bM
 |0,_,_,_,_,_,_=>none
 |n+1,x2,x3,x4,x6,bb,bV=>rC.ed N (rC.l5 N n) x2 x3 x4 x6 bb bV
def rC.b(N:Nat)(eW:rC.bM)(a0:ae)(a1:an)(a2:aE)(a3:Int)(a4:Int):Option ((List (Int))×(Int)):=
 (gb N a0 a1).bind λr1=>cond (!r1) (some ([],(1:Int))) ((ph N a2).bind λr2=>cond (!r2) (some ([],(1:Int))) (eW a2 a3 a4 a1 ([]) (0:Int)))
def rC(N:Nat)(a0:ae)(a1:an)(a2:aE)(a3:Int)(a4:Int):Option ((List (Int))×(Int)):=rC.b N (rC.l5 N N) a0 a1 a2 a3 a4
abbrev cI.mE:=Int→aE→aE→ae→an→bK→Int→(List (Int))→Int→Option (bK×(Int))
abbrev cI.GK:=Int→aE→an→bK→Int→Option (bK×(Int))
abbrev cI.tT:=Int→aE→ae→an→bK→Int→Option (bK×(Int))
abbrev cI.jv:=Int→aE→aE→ae→an→bK→Int→Option (bK×(Int))
abbrev cI.Rb:=Int→aE→aE→ae→an→bK→Option (bK×(Int))
def cI.vw(N:Nat)(lI:cI.jv)(nX:cI.mE)(x2:Int)(x3:aE)(x4:aE)(x5:ae)(x6:an)(bb:bK)(cv:Int)(dN:List (Int))(fA:Int):Option (bK×(Int)):=
 cond (aY fA (List.length dN:Int)) (cond (ba fA (List.length dN)) ((KZ N bb x6 (W .i64 ((W .i64 ((4:Int)+cv))-1)) (6:Int) (List.getD dN fA.toNat (0:Int))).bind λvA=>nX x2 x3 x4 x5 x6 vA cv dN (W .i64 (fA+1))) (none)) (lI x2 x3 x4 x5 x6 bb (W .i64 (cv+1)))
def cI.wQ(N:Nat)(lI:cI.jv):Nat→cI.mE
 |0,_,_,_,_,_,_,_,_,_=>none
 |n+1,x2,x3,x4,x5,x6,bb,cv,dN,fA=>cI.vw N lI (cI.wQ N lI n) x2 x3 x4 x5 x6 bb cv dN fA
def cI.KD(N:Nat)(C9:cI.GK)(x2:Int)(x4:aE)(x6:an)(bb:bK)(U4:Int):Option (bK×(Int)):=
 cond (aY U4 (List.length x4:Int)) (cond (ba U4 (List.length x4)) ((Vi N x6.2.1 ((List.getD x4 U4.toNat cD).1)).bind λHf=>cond (ba U4 (List.length x4)) (cond (ba U4 (List.length x4)) ((s6 N x6.2.2.1 (5:Int) ((List.getD x4 U4.toNat cD).1)).bind λr32=>let v33:Int:=mn (((List.getD x4 U4.toNat cD).2).1) r32;cond (Hf.2) (cond (!aO Hf.1.2.1 x2) (cond (aY 0 v33) (cond (small (List.length bb+List.length ([((9:Int),((5:Int),(Hf.1.1,(v33,((0:Int),())))))]))) (C9 x2 x4 x6 (bb++([((9:Int),((5:Int),(Hf.1.1,(v33,((0:Int),())))))])) (W .i64 (U4+1))) (none)) (C9 x2 x4 x6 bb (W .i64 (U4+1)))) (C9 x2 x4 x6 bb (W .i64 (U4+1)))) (C9 x2 x4 x6 bb (W .i64 (U4+1)))) (none)) (none)) (none)) (some (bb,(0:Int)))
def cI.Nv(N:Nat):Nat→cI.GK
 |0,_,_,_,_,_=>none
 |n+1,x2,x4,x6,bb,U4=>cI.KD N (cI.Nv N n) x2 x4 x6 bb U4
def cI.N0(N:Nat)(Yo:cI.GK)(mH:cI.tT)(x2:Int)(x4:aE)(x5:ae)(x6:an)(bb:bK)(mN:Int):Option (bK×(Int)):=
 cond (aY mN (List.length x6.1:Int)) (cond (ba mN (List.length x6.1)) ((XD N (((List.getD x6.1 mN.toNat cD).2).1)).bind λLk=>cond (!Lk) (mH x2 x4 x5 x6 bb (W .i64 (mN+1))) (cond (aO ((List.getD x6.1 mN.toNat cD).1) x2) (mH x2 x4 x5 x6 bb (W .i64 (mN+1))) ((jz N x5.2.2.1).bind λLi=>(s6 N x6.2.2.1 (6:Int) ((List.getD x6.1 mN.toNat cD).1)).bind λBh=>(jz N Bh).bind λJG=>(jR N Li JG).bind λHe=>(wH N He).bind λBi=>cond (!Bi.2) (some ([],(2:Int))) (cond (aY 0 Bi.1) (cond (small (List.length bb+List.length ([((8:Int),((7:Int),((List.getD x6.1 mN.toNat cD).1,(Bi.1,((0:Int),())))))]))) (mH x2 x4 x5 x6 (bb++([((8:Int),((7:Int),((List.getD x6.1 mN.toNat cD).1,(Bi.1,((0:Int),())))))])) (W .i64 (mN+1))) (none)) (mH x2 x4 x5 x6 bb (W .i64 (mN+1))))))) (none)) (Yo x2 x4 x6 bb (0:Int))
def cI.HT(N:Nat):Nat→cI.tT
 |0,_,_,_,_,_,_=>none
 |n+1,x2,x4,x5,x6,bb,mN=>cI.N0 N (cI.Nv N N) (cI.HT N n) x2 x4 x5 x6 bb mN
def cI.pD(N:Nat)(GI:cI.mE)(Yz:cI.tT)(lI:cI.jv)(x2:Int)(x3:aE)(x4:aE)(x5:ae)(x6:an)(bb:bK)(cv:Int):Option (bK×(Int)):=
 cond (dj cv 4) ((rC N x5 x6 x3 x2 cv).bind λnL=>GI x2 x3 x4 x5 x6 bb cv nL.1 (0:Int)) (Yz x2 x4 x5 x6 bb (0:Int))
def cI.p7(N:Nat):Nat→cI.jv
 |0,_,_,_,_,_,_,_=>none
 |n+1,x2,x3,x4,x5,x6,bb,cv=>cI.pD N (cI.wQ N (cI.p7 N n) N) (cI.HT N N) (cI.p7 N n) x2 x3 x4 x5 x6 bb cv
def cI.Nl(N:Nat)(xf:cI.jv)(x2:Int)(x3:aE)(x4:aE)(x5:ae)(x6:an)(bb:bK):Option (bK×(Int)):=
 (KZ N bb x6 (2:Int) (6:Int) x2).bind λr8=>(KZ N r8 x6 (3:Int) (3:Int) (0:Int)).bind λr9=>xf x2 x3 x4 x5 x6 r9 (1:Int)
def cI.j9(N:Nat)(x2:Int)(x3:aE)(x4:aE)(x5:ae)(x6:an)(bb:bK):Option (bK×(Int)):=cI.Nl N (cI.p7 N N) x2 x3 x4 x5 x6 bb
def cI.b(N:Nat)(GN:cI.Rb)(a0:ae)(a1:an)(a2:Int)(a3:aE)(a4:aE):Option (bK×(Int)):=
 (gb N a0 a1).bind λr1=>cond (!r1) (some ([],(1:Int))) ((ph N a3).bind λr2=>cond (!r2) (some ([],(1:Int))) ((qb N a4).bind λr3=>cond (!r3) (some ([],(1:Int))) ((Qq N a1.1 a2).bind λr4=>cond (aO r4 0) (some ([],(3:Int))) ((mg N a1.2.1 a2).bind λr5=>cond (!aO r5 0) ((KZ N ([]) a1 (1:Int) (5:Int) r5).bind λr6=>GN a2 a3 a4 a0 a1 r6) (GN a2 a3 a4 a0 a1 ([]))))))
def cI(N:Nat)(a0:ae)(a1:an)(a2:Int)(a3:aE)(a4:aE):Option (bK×(Int)):=cI.b N (cI.j9 N) a0 a1 a2 a3 a4
def aaU(N:Nat)(a0:ae)(a1:an):Option ((Int)×(Int)):=
 (gb N a0 a1).bind λr1=>cond (!r1) (some ((0:Int),(1:Int))) ((s6 N a1.2.2.1 (2:Int) (0:Int)).bind λr2=>cond (aO r2 (-9223372036854775808)) (some ((0:Int),(2:Int))) (some ((mx (W .i64 (0-r2)) (0:Int)),(0:Int))))
abbrev rD.bS:=bK→Int→Option (Bool)
def rD.ei(N:Nat)(cF:rD.bS)(x0:bK)(x3:Int):Option (Bool):=
 cond (aY x3 (List.length x0:Int)) (cond (ba x3 (List.length x0)) (cond (aY ((List.getD x0 x3.toNat mI).1) (1:Int)) (some false) (cond (aY 9 ((List.getD x0 x3.toNat mI).1)) (some false) ((Qk N (((List.getD x0 x3.toNat mI).2).1) ((((List.getD x0 x3.toNat mI).2).2).1)).bind λr2=>cond (!r2) (some false) (cond (aY (((((List.getD x0 x3.toNat mI).2).2).2).1) (1:Int)) (some false) (cond (aY ((((((List.getD x0 x3.toNat mI).2).2).2).2).1) (0:Int)) (some false) (cond (aY (((((List.getD x0 x3.toNat mI).2).2).2).1) ((((((List.getD x0 x3.toNat mI).2).2).2).2).1)) (some false) (cond (aY 0 x3) (let v3:Int:=W .i64 (x3-1);cond (ba v3 (List.length x0)) (cond (aY ((List.getD x0 x3.toNat mI).1) ((List.getD x0 v3.toNat mI).1)) (some false) (let v4:Int:=W .i64 (x3-1);cond (ba v4 (List.length x0)) (cond (aO ((List.getD x0 x3.toNat mI).1) ((List.getD x0 v4.toNat mI).1)) (let v5:Int:=W .i64 (x3-1);cond (ba v5 (List.length x0)) (cond (!aO (((List.getD x0 x3.toNat mI).2).1) (((List.getD x0 v5.toNat mI).2).1)) (some false) (let v6:Int:=W .i64 (x3-1);cond (ba v6 (List.length x0)) (cond (dj ((((List.getD x0 x3.toNat mI).2).2).1) ((((List.getD x0 v6.toNat mI).2).2).1)) (some false) (cF x0 (W .i64 (x3+1)))) (none))) (none)) (cF x0 (W .i64 (x3+1)))) (none))) (none)) (cF x0 (W .i64 (x3+1)))))))))) (none)) (some true)
def rD.l4(N:Nat):Nat→rD.bS
 |0,_,_=>none
 |n+1,x0,x3=>rD.ei N (rD.l4 N n) x0 x3
def rD.b(N:Nat)(fE:rD.bS)(a0:bK):Option (Bool):=
 cond (aY 64 (List.length a0:Int)) (some false) (fE a0 (0:Int))
def rD(N:Nat)(a0:bK):Option (Bool):=rD.b N (rD.l4 N N) a0
abbrev dD.xh:=bK→Int→Int→Int→(List (Int))→Int→Option (bK×(Int)×(Int))
abbrev dD.Ov:=bK→Int→Int→Int→(List (Int))→Option (bK×(Int)×(Int))
abbrev dD.gQ:=bK→Int→Int→Int→(List (Int))→Option (bK×(Int)×(Int))
abbrev dD.bM:=bK→Int→Int→Option (bK×(Int)×(Int))
def dD.DE(N:Nat)(bO:dD.bM)(GR:dD.xh)(x7:bK)(x8:Int)(x9:Int)(bx:Int)(cv:List (Int))(eR:Int):Option (bK×(Int)×(Int)):=
 cond (aY eR bx) (let v13:Int:=W .i64 (eR-x9);cond (ba v13 (List.length cv)) (cond (ba eR (List.length x7)) (let v15:Int:=W .i64 (eR-x9);cond (ba v15 (List.length cv)) (GR (List.set x7 eR.toNat ((List.getD x7 eR.toNat mI).1,(((List.getD x7 eR.toNat mI).2).1,((((List.getD x7 eR.toNat mI).2).2).1,(((((List.getD x7 eR.toNat mI).2).2).2).1,(List.getD cv v13.toNat (0:Int),(((((List.getD x7 eR.toNat mI).2).2).2).2).2)))))) (W .i64 (x8-(List.getD cv v15.toNat (0:Int)))) x9 bx cv (W .i64 (eR+1))) (none)) (none)) (none)) (bO x7 x8 bx)
def dD.Hc(N:Nat)(bO:dD.bM):Nat→dD.xh
 |0,_,_,_,_,_,_=>none
 |n+1,x7,x8,x9,bx,cv,eR=>dD.DE N bO (dD.Hc N bO n) x7 x8 x9 bx cv eR
def dD.BT(N:Nat)(Ow:dD.xh)(bO:dD.bM)(x7:bK)(x8:Int)(x9:Int)(bx:Int)(aX:List (Int)):Option (bK×(Int)×(Int)):=
 (pz N aX).bind λr8=>(wH N r8).bind λr9=>cond (!r9.2) (some ([],(0:Int),(2:Int))) ((fO N (mn r9.1 x8) aX).bind λnL=>cond (!aO nL.2 0) (some ([],(0:Int),nL.2)) (Ow x7 x8 x9 bx nL.1 x9))
def dD.Jf(N:Nat)(bO:dD.bM)(x7:bK)(x8:Int)(x9:Int)(bx:Int)(aX:List (Int)):Option (bK×(Int)×(Int)):=dD.BT N (dD.Hc N bO N) bO x7 x8 x9 bx aX
def dD.yd(N:Nat)(Da:dD.Ov)(bO:dD.bM)(e7:dD.gQ)(x7:bK)(x8:Int)(x9:Int)(bx:Int)(aX:List (Int)):Option (bK×(Int)×(Int)):=
 cond (aY bx (List.length x7:Int)) (cond (ba bx (List.length x7)) (cond (ba x9 (List.length x7)) (cond (aO ((List.getD x7 bx.toNat mI).1) ((List.getD x7 x9.toNat mI).1)) (cond (ba bx (List.length x7)) (cond (small (List.length aX+List.length ([((((List.getD x7 bx.toNat mI).2).2).2).1]))) (e7 x7 x8 x9 (W .i64 (bx+1)) (aX++([((((List.getD x7 bx.toNat mI).2).2).2).1]))) (none)) (none)) (Da x7 x8 x9 bx aX)) (none)) (none)) (Da x7 x8 x9 bx aX)
def dD.l8(N:Nat)(bO:dD.bM):Nat→dD.gQ
 |0,_,_,_,_,_=>none
 |n+1,x7,x8,x9,bx,aX=>dD.yd N (dD.Jf N bO) bO (dD.l8 N bO n) x7 x8 x9 bx aX
def dD.ed(N:Nat)(B8:dD.gQ)(bO:dD.bM)(x7:bK)(x8:Int)(x9:Int):Option (bK×(Int)×(Int)):=
 cond (aY x9 (List.length x7:Int)) (B8 x7 x8 x9 x9 ([])) (some (x7,x8,(0:Int)))
def dD.l5(N:Nat):Nat→dD.bM
 |0,_,_,_=>none
 |n+1,x7,x8,x9=>dD.ed N (dD.l8 N (dD.l5 N n) N) (dD.l5 N n) x7 x8 x9
def dD.b(N:Nat)(eW:dD.bM)(a0:bK)(a1:Int):Option (bK×(Int)×(Int)):=
 (rD N a0).bind λr1=>cond (!r1) (some ([],(0:Int),(1:Int))) (cond (aY a1 0) (some ([],(0:Int),(1:Int))) (cond (small (List.length De+List.length a0)) (eW (De++a0) a1 (0:Int)) (none)))
def dD(N:Nat)(a0:bK)(a1:Int):Option (bK×(Int)×(Int)):=dD.b N (dD.l5 N N) a0 a1
def aaV(N:Nat)(a0:ae)(a1:an):Option ((Int)×(Int)):=
 (gb N a0 a1).bind λr1=>cond (!r1) (some ((0:Int),(1:Int))) ((s6 N a1.2.2.1 (2:Int) (0:Int)).bind λr2=>some ((mx r2 0),(0:Int)))
abbrev ik.anq:=an→an→dK→bE→dK→bK→Int→Int→Int→Option (an×dK×(Int))
abbrev ik.GP:=Int→ae→an→an→dK→bK→Int→bE→dK→bK→Int→Option (an×dK×(Int))
def ik.aaX(N:Nat)(x6:an)(bx:an)(aX:dK)(mN:bE)(nP:dK)(GU:bK)(x21:Int)(x23:Int)(x24:Int):Option (an×dK×(Int)):=
 (jz N x21).bind λzb=>(yg N (2:Int) (0:Int) x23 x24 zb).bind λtR=>cond (small (List.length mN+List.length tR)) ((yf N x6 bG (mN++tR)).bind λLh=>cond (!aO Lh.2 0) (some ((ck,(c8,(bG,(bG,(dC,(dQ,())))))),((0:Int),((0:Int),(De,((0:Int),())))),Lh.2)) (some (Lh.1,(nP.1,(nP.2.1,(GU,nP.2.2.2))),(0:Int)))) (none)
def ik.j26(N:Nat)(x6:an)(bx:an)(aX:dK)(mN:bE)(nP:dK)(GU:bK)(x21:Int)(x23:Int)(x24:Int):Option (an×dK×(Int)):=ik.aaX N x6 bx aX mN nP GU x21 x23 x24
def ik.HJ(N:Nat)(agi:ik.anq)(JH:ik.GP)(x2:Int)(x5:ae)(x6:an)(bx:an)(aX:dK)(bV:bK)(fA:Int)(mN:bE)(nP:dK)(GU:bK)(DH:Int):Option (an×dK×(Int)):=
 cond (aY DH (List.length bV:Int)) (cond (ba DH (List.length bV)) (cond (aY 0 ((((((List.getD bV DH.toNat mI).2).2).2).2).1)) (cond (ba DH (List.length bV)) (cond (small (List.length GU+List.length ([List.getD bV DH.toNat mI]))) (cond (ba DH (List.length bV)) (cond (ba DH (List.length bV)) (cond (ba DH (List.length bV)) ((jz N ((((((List.getD bV DH.toNat mI).2).2).2).2).1)).bind λr6=>(yg N (((List.getD bV DH.toNat mI).2).1) ((((List.getD bV DH.toNat mI).2).2).1) (2:Int) (0:Int) r6).bind λr7=>cond (small (List.length mN+List.length r7)) (JH x2 x5 x6 bx aX bV fA (mN++r7) (nP.1,(nP.2.1,(De,nP.2.2.2))) (GU++([List.getD bV DH.toNat mI])) (W .i64 (DH+1))) (none)) (none)) (none)) (none)) (none)) (none)) (JH x2 x5 x6 bx aX bV fA mN nP GU (W .i64 (DH+1)))) (none)) ((jz N fA).bind λnL=>(yg N (4:Int) (0:Int) (2:Int) (0:Int) nL).bind λnW=>cond (small (List.length mN+List.length nW)) (let v13:List ((Int)×((Int)×(((Bool)×((List (Int))×(Unit)))×(Unit)))):=mN++nW;(aaV N x5 x6).bind λxe=>(mg N x6.2.1 x2).bind λvA=>cond (!aO vA 0) (agi x6 bx aX v13 nP GU xe.1 (5:Int) vA) (agi x6 bx aX v13 nP GU xe.1 (6:Int) x2)) (none))
def ik.IJ(N:Nat):Nat→ik.GP
 |0,_,_,_,_,_,_,_,_,_,_,_=>none
 |n+1,x2,x5,x6,bx,aX,bV,fA,mN,nP,GU,DH=>ik.HJ N (ik.j26 N) (ik.IJ N n) x2 x5 x6 bx aX bV fA mN nP GU DH
def ik.b(N:Nat)(Yw:ik.GP)(a0:ae)(a1:an)(a2:Int)(a3:aE)(a4:aE):Option (an×dK×(Int)):=
 (cI N a0 a1 a2 a3 a4).bind λr1=>cond (aO r1.2 1) (some ((ck,(c8,(bG,(bG,(dC,(dQ,())))))),((0:Int),((0:Int),(De,((0:Int),())))),r1.2)) (cond (aO r1.2 3) (some ((ck,(c8,(bG,(bG,(dC,(dQ,())))))),((0:Int),((0:Int),(De,((0:Int),())))),r1.2)) ((aaU N a0 a1).bind λr2=>cond (!aO r2.2 0) (some ((ck,(c8,(bG,(bG,(dC,(dQ,())))))),((0:Int),((0:Int),(De,((0:Int),())))),r2.2)) (cond (!aO r1.2 0) (some ((ck,(c8,(bG,(bG,(dC,(dQ,())))))),((0:Int),((0:Int),(De,((0:Int),())))),r1.2)) ((dD N r1.1 r2.1).bind λr3=>cond (!aO r3.2.2 0) (some ((ck,(c8,(bG,(bG,(dC,(dQ,())))))),((0:Int),((0:Int),(De,((0:Int),())))),r3.2.2)) (Yw a2 a0 a1 (ck,(c8,(bG,(bG,(dC,(dQ,())))))) ((0:Int),((0:Int),(De,((0:Int),())))) r3.1 r3.2.1 ([]) (a2,(r2.1,(De,(r3.2.1,())))) De (0:Int))))))
def ik(N:Nat)(a0:ae)(a1:an)(a2:Int)(a3:aE)(a4:aE):Option (an×dK×(Int)):=ik.b N (ik.IJ N N) a0 a1 a2 a3 a4
abbrev eK.GJ:=(List (Int))→(List (Int))→(List (Int))→Int→Int→(List (Int))→Int→Option ((List (Int))×(Int)×(Int))
abbrev eK.jv:=(List (Int))→(List (Int))→(List (Int))→Int→Int→(List (Int))→Bool→Int→Option ((List (Int))×(Int)×(Int))
abbrev eK.gQ:=(List (Int))→(List (Int))→(List (Int))→Int→Int→Option ((List (Int))×(Int)×(Int))
def eK.Qx(N:Nat)(e7:eK.gQ)(Yn:eK.GJ)(x1:List (Int))(x2:List (Int))(aX:List (Int))(bb:Int)(bV:Int)(fA:List (Int))(nP:Int):Option ((List (Int))×(Int)×(Int)):=
 cond (aY nP (List.length x1:Int)) (cond (ba nP (List.length fA)) (cond (ba nP (List.length x2)) (cond (ba nP (List.length aX)) (let Ys:Int:=mn (List.getD fA nP.toNat (0:Int)) (W .i64 ((List.getD x2 nP.toNat (0:Int))-(List.getD aX nP.toNat (0:Int))));cond (ba nP (List.length aX)) (cond (ba nP (List.length aX)) (Yn x1 x2 (List.set aX nP.toNat (W .i64 ((List.getD aX nP.toNat (0:Int))+Ys))) (W .i64 (bb-Ys)) bV fA (W .i64 (nP+1))) (none)) (none)) (none)) (none)) (none)) (e7 x1 x2 aX bb (W .i64 (bV+1)))
def eK.T1(N:Nat)(e7:eK.gQ):Nat→eK.GJ
 |0,_,_,_,_,_,_,_=>none
 |n+1,x1,x2,aX,bb,bV,fA,nP=>eK.Qx N e7 (eK.T1 N e7 n) x1 x2 aX bb bV fA nP
def eK.pD(N:Nat)(Yp:eK.GJ)(e7:eK.gQ)(lI:eK.jv)(x1:List (Int))(x2:List (Int))(aX:List (Int))(bb:Int)(bV:Int)(cv:List (Int))(dN:Bool)(eR:Int):Option ((List (Int))×(Int)×(Int)):=
 cond (aY eR (List.length x1:Int)) (cond (ba eR (List.length x1)) (cond (aY 0 (List.getD x1 eR.toNat (0:Int))) (cond (ba eR (List.length aX)) (cond (ba eR (List.length x2)) (cond (aY (List.getD aX eR.toNat (0:Int)) (List.getD x2 eR.toNat (0:Int))) (cond (ba eR (List.length x1)) (cond (ba eR (List.length cv)) (lI x1 x2 aX bb bV (List.set cv eR.toNat (List.getD x1 eR.toNat (0:Int))) true (W .i64 (eR+1))) (none)) (none)) (lI x1 x2 aX bb bV cv dN (W .i64 (eR+1)))) (none)) (none)) (lI x1 x2 aX bb bV cv dN (W .i64 (eR+1)))) (none)) (cond (aO bb 0) (some (aX,bb,(0:Int))) (cond (!dN) (some (aX,bb,(0:Int))) ((fO N bb cv).bind λqx=>Yp x1 x2 aX bb bV qx.1 (0:Int))))
def eK.p7(N:Nat)(e7:eK.gQ):Nat→eK.jv
 |0,_,_,_,_,_,_,_,_=>none
 |n+1,x1,x2,aX,bb,bV,cv,dN,eR=>eK.pD N (eK.T1 N e7 N) e7 (eK.p7 N e7 n) x1 x2 aX bb bV cv dN eR
def eK.yd(N:Nat)(xf:eK.jv)(e7:eK.gQ)(x1:List (Int))(x2:List (Int))(aX:List (Int))(bb:Int)(bV:Int):Option ((List (Int))×(Int)×(Int)):=
 cond (dj bV (List.length x1:Int)) (cond (jX (List.length x1:Int) (List.length x1:Int)) (xf x1 x2 aX bb bV (List.replicate (List.length x1:Int).toNat (0:Int)) false (0:Int)) (none)) (some (aX,bb,(0:Int)))
def eK.l8(N:Nat):Nat→eK.gQ
 |0,_,_,_,_,_=>none
 |n+1,x1,x2,aX,bb,bV=>eK.yd N (eK.p7 N (eK.l8 N n) N) (eK.l8 N n) x1 x2 aX bb bV
def eK.b(N:Nat)(B8:eK.gQ)(a0:Int)(a1:List (Int))(a2:List (Int)):Option ((List (Int))×(Int)×(Int)):=
 (pG N a0 a1).bind λr1=>cond (r1) (some ([],(0:Int),(1:Int))) (cond (!aO (List.length a2:Int) (List.length a1:Int)) (some ([],(0:Int),(1:Int))) ((pG N (0:Int) a2).bind λr2=>cond (r2) (some ([],(0:Int),(1:Int))) ((pz N a1).bind λr3=>(wH N r3).bind λr4=>cond (!r4.2) (some ([],(0:Int),(2:Int))) (cond (jX (List.length a1:Int) (List.length a1:Int)) (B8 a1 a2 (List.replicate (List.length a1:Int).toNat (0:Int)) a0 (0:Int)) (none)))))
def eK(N:Nat)(a0:Int)(a1:List (Int))(a2:List (Int)):Option ((List (Int))×(Int)×(Int)):=eK.b N (eK.l8 N N) a0 a1 a2
abbrev fD.YA:=Int→Int→(List (Int))→(List (Int))→au→Int→Option (au×(Int))
abbrev fD.xj:=Int→an→Int→(List (Int))→(List (Int))→Int→Option (au×(Int))
def fD.XE(N:Nat)(SP:fD.YA)(x2:Int)(x8:Int)(x9:List (Int))(bV:List (Int))(eR:au)(fA:Int):Option (au×(Int)):=
 cond (aY fA (List.length bV:Int)) (cond (ba fA (List.length bV)) (cond (aY x8 0) (let v17:Int:=W .i64 (0-(List.getD bV fA.toNat (0:Int)));cond (!aO v17 0) (cond (ba fA (List.length x9)) (cond (small (List.length eR+List.length ([(List.getD x9 fA.toNat (0:Int),(x2,(v17,())))]))) (SP x2 x8 x9 bV (eR++([(List.getD x9 fA.toNat (0:Int),(x2,(v17,())))])) (W .i64 (fA+1))) (none)) (none)) (SP x2 x8 x9 bV eR (W .i64 (fA+1)))) (cond (!aO (List.getD bV fA.toNat (0:Int)) (0:Int)) (cond (ba fA (List.length x9)) (cond (small (List.length eR+List.length ([(List.getD x9 fA.toNat (0:Int),(x2,(List.getD bV fA.toNat (0:Int),())))]))) (SP x2 x8 x9 bV (eR++([(List.getD x9 fA.toNat (0:Int),(x2,(List.getD bV fA.toNat (0:Int),())))])) (W .i64 (fA+1))) (none)) (none)) (SP x2 x8 x9 bV eR (W .i64 (fA+1))))) (none)) (some (eR,(0:Int)))
def fD.Uz(N:Nat):Nat→fD.YA
 |0,_,_,_,_,_,_=>none
 |n+1,x2,x8,x9,bV,eR,fA=>fD.XE N (fD.Uz N n) x2 x8 x9 bV eR fA
def fD.y7(N:Nat)(anr:fD.YA)(A9:fD.xj)(x2:Int)(x4:an)(x8:Int)(x9:List (Int))(bx:List (Int))(aX:Int):Option (au×(Int)):=
 cond (aY aX (List.length x4.2.2.2.1:Int)) (cond (ba aX (List.length x4.2.2.2.1)) (cond (!aO ((List.getD x4.2.2.2.1 aX.toNat bl).1) (0:Int)) (cond (aO (((List.getD x4.2.2.2.1 aX.toNat bl).2).1) x2) (cond (!(ql .bool (aY 0 ((((List.getD x4.2.2.2.1 aX.toNat bl).2).2).1)) (aY 0 x8))) (cond (small (List.length x9+List.length ([(List.getD x4.2.2.2.1 aX.toNat bl).1]))) (let v6:Int:=mx ((((List.getD x4.2.2.2.1 aX.toNat bl).2).2).1) (W .i64 (0-((((List.getD x4.2.2.2.1 aX.toNat bl).2).2).1)));cond (small (List.length bx+List.length ([v6]))) (A9 x2 x4 x8 (x9++([(List.getD x4.2.2.2.1 aX.toNat bl).1])) (bx++([v6])) (W .i64 (aX+1))) (none)) (none)) (A9 x2 x4 x8 x9 bx (W .i64 (aX+1)))) (A9 x2 x4 x8 x9 bx (W .i64 (aX+1)))) (A9 x2 x4 x8 x9 bx (W .i64 (aX+1)))) (none)) ((eK N (mx x8 (W .i64 (0-x8))) bx bx).bind λxe=>cond (!aO xe.2.2 0) (some ([],xe.2.2)) (anr x2 x8 x9 xe.1 ([((0:Int),(x2,((W .i64 (0-x8)),())))]) (0:Int)))
def fD.BS(N:Nat):Nat→fD.xj
 |0,_,_,_,_,_,_=>none
 |n+1,x2,x4,x8,x9,bx,aX=>fD.y7 N (fD.Uz N N) (fD.BS N n) x2 x4 x8 x9 bx aX
def fD.b(N:Nat)(Oy:fD.xj)(a0:ae)(a1:an)(a2:Int):Option (au×(Int)):=
 (gb N a0 a1).bind λr1=>cond (!r1) (some ([],(1:Int))) (cond (aY a2 0) (some ([],(3:Int))) (cond (dj (List.length a0.1:Int) a2) (some ([],(3:Int))) ((yZ N a1.2.2.2.1 (0:Int) a2).bind λr2=>cond (aO r2 0) (some ([],(0:Int))) (Oy a2 a1 r2 ([]) ([]) (0:Int)))))
def fD(N:Nat)(a0:ae)(a1:an)(a2:Int):Option (au×(Int)):=fD.b N (fD.BS N N) a0 a1 a2
abbrev nI.bM:=ae→an→an→au→Int→Option (an×(Int))
def nI.ed(N:Nat)(bO:nI.bM)(x2:ae)(x3:an)(x4:an)(x6:au)(x7:Int):Option (an×(Int)):=
 cond (aY x7 (List.length x2.1:Int)) ((fD N x2 x3 x7).bind λr3=>cond (!aO r3.2 0) (some ((ck,(c8,(bG,(bG,(dC,(dQ,())))))),r3.2)) (cond (small (List.length x6+List.length r3.1)) (bO x2 x3 x4 (x6++r3.1) (W .i64 (x7+1))) (none))) ((yf N x3 x6 ([]:List ((Int)×((Int)×(((Bool)×((List (Int))×(Unit)))×(Unit)))))).bind λr6=>some (r6.1,r6.2))
def nI.l5(N:Nat):Nat→nI.bM
 |0,_,_,_,_,_=>none
 |n+1,x2,x3,x4,x6,x7=>nI.ed N (nI.l5 N n) x2 x3 x4 x6 x7
def nI.b(N:Nat)(eW:nI.bM)(a0:ae)(a1:an):Option (an×(Int)):=
 (gb N a0 a1).bind λr1=>cond (!r1) (some ((ck,(c8,(bG,(bG,(dC,(dQ,())))))),(1:Int))) (eW a0 a1 (ck,(c8,(bG,(bG,(dC,(dQ,())))))) ([]) (0:Int))
def nI(N:Nat)(a0:ae)(a1:an):Option (an×(Int)):=nI.b N (nI.l5 N N) a0 a1
abbrev nK.YB:=aQ→aQ→da→bA→Int→Int→Option (aQ×da)
def nK.aaZ(N:Nat)(agj:nK.YB)(x4:aQ)(x6:aQ)(x7:da)(cv:bA)(eR:Int)(fA:Int):Option (aQ×da):=
 cond (aY fA (List.length cv:Int)) (cond (ba fA (List.length cv)) (cond (aO (((((List.getD cv fA.toNat ((0:Int),(ck,aV))).2).2).2).1) (2:Int)) (agj x4 x6 x7 cv (W .i64 (eR+1)) (W .i64 (fA+1))) (agj x4 x6 x7 cv eR (W .i64 (fA+1)))) (none)) (some (x4,((0:Int),(eR,((0:Int),())))))
def nK.l41(N:Nat):Nat→nK.YB
 |0,_,_,_,_,_,_=>none
 |n+1,x4,x6,x7,cv,eR,fA=>nK.aaZ N (nK.l41 N n) x4 x6 x7 cv eR fA
def nK.b(N:Nat)(ans:nK.YB)(a0:ae)(a1:aQ)(a2:gO):Option (aQ×da):=
 cond (aO a2.1 14) ((Uq N a0 a1.2.2.1 a1.2.2.2.1.1 a2.2.1 a2.2.2.1).bind λr1=>(fy N r1.2).bind λr2=>some ((a1.1,(a1.2.1,(r1.1,a1.2.2.2))),r2)) (cond (aO a2.1 15) ((mR N a0 a1.2.2.1 a1.2.2.2.1.1).bind λr3=>(fy N r3.2).bind λr4=>some ((a1.1,(a1.2.1,(r3.1,((a1.2.2.2.1.1,((2:Int),((0:Int),a1.2.2.2.1.2.2.2))),a1.2.2.2.2)))),r4)) (cond (aO a2.1 16) ((iU N a0 a1.2.2.1 a1.2.1).bind λr5=>some ((a1.1,((W .i64 (a1.2.1+(List.length r5.1:Int))),(a1.2.2.1,((a1.2.2.2.1.1,(a1.2.2.2.1.2.1,(a1.2.2.2.1.2.2.1,(a1.2.2.2.1.2.2.2.1,(r5.1,a1.2.2.2.1.2.2.2.2.2))))),a1.2.2.2.2)))),(r5.2,((List.length r5.1:Int),((0:Int),()))))) (cond (aO a2.1 17) ((nJ N a0 a1 a2).bind λr7=>some (r7.1,r7.2)) (cond (aO a2.1 18) (cond (aO a1.2.2.2.1.2.2.2.1 3) ((fy N (5:Int)).bind λr8=>some (a1,r8)) ((bT N a0 a1.2.2.1 a1.2.1).bind λr9=>cond (!aO r9.2 0) ((fy N r9.2).bind λkz=>some (a1,kz)) ((UB N a1 a0.2.2.2.2.1).bind λnL=>cond (!nL.2) ((fy N (2:Int)).bind λnW=>some (a1,nW)) ((rz N a0 a1.2.2.1).bind λxe=>some ((a1.1,((W .i64 (a1.2.1+(List.length r9.1:Int))),(a1.2.2.1,((a1.2.2.2.1.1,((3:Int),(nL.1,((W .i64 (a1.2.2.2.1.2.2.2.1+1)),(c8,(r9.1,(c8,(xe.1,a1.2.2.2.1.2.2.2.2.2.2.2.2)))))))),a1.2.2.2.2)))),((0:Int),((List.length r9.1:Int),((0:Int),())))))))) (cond (aO a2.1 19) ((aaS N a0 a1.2.2.1 a1.2.2.2.1.2.2.2.2.2.1 a1.2.2.2.1.2.2.2.2.2.2.1 (a1.2.1,(a2.2.2.2.2.2.1,(a2.2.1,(a2.2.2.2.2.2.2.2.1,()))))).bind λxQ=>let v17:Int:=W .i64 (a1.2.1+1);some ((a1.1,(v17,(a1.2.2.1,((a1.2.2.2.1.1,(a1.2.2.2.1.2.1,(a1.2.2.2.1.2.2.1,(a1.2.2.2.1.2.2.2.1,(a1.2.2.2.1.2.2.2.2.1,(a1.2.2.2.1.2.2.2.2.2.1,(xQ.1,a1.2.2.2.1.2.2.2.2.2.2.2))))))),a1.2.2.2.2)))),(xQ.2,((W .i64 (v17-1)),((0:Int),()))))) (cond (aO a2.1 20) ((fK N a0 a1.2.2.1 a1.2.2.2.1.2.2.2.2.2.1 a1.2.2.2.1.2.2.2.2.2.2.1).bind λLk=>cond (!aO Lk.2.2 0) ((fy N Lk.2.2).bind λLh=>some (a1,Lh)) ((dw N a0 a1.2.2.2.1.2.2.2.2.2.2.2.2.1 a1.2.2.2.1.2.2.2.2.2.2.2.1 Lk.2.1 a1.2.2.2.1.2.2.2.2.2.2.1).bind λC8=>ans (a1.1,(a1.2.1,(Lk.1,((a1.2.2.2.1.1,((2:Int),((0:Int),(a1.2.2.2.1.2.2.2.1,(a1.2.2.2.1.2.2.2.2.1,(Lk.2.1,(a1.2.2.2.1.2.2.2.2.2.2.1,(a1.2.2.2.1.2.2.2.2.2.2.2.1,(C8.1,a1.2.2.2.1.2.2.2.2.2.2.2.2.2))))))))),a1.2.2.2.2)))) ((0:Int),((0:Int),((ck,(c8,(bG,(bG,(dC,(dQ,())))))),(((0:Int),((0:Int),((0:Int),((0:Int),(c8,(([]:List ((Int)×((List ((Int)×((Int)×(Unit))))×((Int)×((Int)×((Int)×((Int)×(Unit)))))))),(c8,(dC,(ck,(ck,())))))))))),(((0:Int),((0:Int),(De,((0:Int),())))),()))))) bl Lk.2.1 (0:Int) (0:Int))) (cond (aO a2.1 21) ((ik N a0 a1.2.2.1 a1.2.2.2.1.1 a1.2.2.2.1.2.2.2.2.2.2.2.2.1 a1.2.2.2.1.2.2.2.2.2.2.2.2.2.1).bind λBi=>cond (!aO Bi.2.2 0) ((fy N Bi.2.2).bind λLg=>some (a1,Lg)) ((nI N a0 Bi.1).bind λY9=>cond (!aO Y9.2 0) ((fy N Y9.2).bind λEa=>some (a1,Ea)) ((lH N Y9.1.1 a1.2.2.2.1.1 a2.1).bind λRa=>some ((a1.1,(a1.2.1,((Ra.1,Y9.1.2),(((0:Int),((0:Int),((0:Int),((0:Int),(c8,(([]:List ((Int)×((List ((Int)×((Int)×(Unit))))×((Int)×((Int)×((Int)×((Int)×(Unit)))))))),(c8,(dC,(ck,(ck,())))))))))),(Bi.2.1,a1.2.2.2.2.2))))),(Ra.2,((0:Int),(Bi.2.1.2.1,()))))))) ((fy N (0:Int)).bind λHf=>some (a1,Hf)))))))))
def nK(N:Nat)(a0:ae)(a1:aQ)(a2:gO):Option (aQ×da):=nK.b N (nK.l41 N N) a0 a1 a2
abbrev pL.Yy:=ae→aQ→gO→aQ→da→Option (aQ×da)
def pL.N1(N:Nat)(x3:ae)(x4:aQ)(x5:gO)(x6:aQ)(x7:da):Option (aQ×da):=
 (aa0 N x4 x5.1).bind λLg=>cond (!Lg) ((fy N (6:Int)).bind λY9=>some (x4,Y9)) ((nK N x3 x4 x5).bind λEa=>some (Ea.1,Ea.2))
def pL.Uu(N:Nat)(x3:ae)(x4:aQ)(x5:gO)(x6:aQ)(x7:da):Option (aQ×da):=pL.N1 N x3 x4 x5 x6 x7
def pL.b(N:Nat)(OA:pL.Yy)(a0:ae)(a1:aQ)(a2:gO):Option (aQ×da):=
 cond (aO a2.1 11) ((lH N a1.2.2.1.1 a2.2.1 a2.1).bind λr1=>cond (aO r1.2 0) (cond (aO a2.1 11) ((KW N a0 (r1.1,a1.2.2.1.2) a2.2.1).bind λr2=>cond (aO a1.2.2.2.1.2.1 3) ((pg N a1.2.2.2.1.2.2.2.2.2.2.1 a2.2.1).bind λr3=>(fy N r1.2).bind λr4=>some ((a1.1,(a1.2.1,(r2.1,((a1.2.2.2.1.1,(a1.2.2.2.1.2.1,(a1.2.2.2.1.2.2.1,(a1.2.2.2.1.2.2.2.1,(a1.2.2.2.1.2.2.2.2.1,(a1.2.2.2.1.2.2.2.2.2.1,(r3,a1.2.2.2.1.2.2.2.2.2.2.2))))))),a1.2.2.2.2)))),r4)) ((fy N r1.2).bind λr5=>some ((a1.1,(a1.2.1,(r2.1,a1.2.2.2))),r5))) ((fy N r1.2).bind λr6=>some ((a1.1,(a1.2.1,((r1.1,a1.2.2.1.2),a1.2.2.2))),r6))) ((fy N r1.2).bind λr7=>some ((a1.1,(a1.2.1,((r1.1,a1.2.2.1.2),a1.2.2.2))),r7))) (cond (aO a2.1 12) ((lH N a1.2.2.1.1 a2.2.1 a2.1).bind λr8=>cond (aO r8.2 0) (cond (aO a2.1 11) ((KW N a0 (r8.1,a1.2.2.1.2) a2.2.1).bind λr9=>cond (aO a1.2.2.2.1.2.1 3) ((pg N a1.2.2.2.1.2.2.2.2.2.2.1 a2.2.1).bind λkz=>(fy N r8.2).bind λnL=>some ((a1.1,(a1.2.1,(r9.1,((a1.2.2.2.1.1,(a1.2.2.2.1.2.1,(a1.2.2.2.1.2.2.1,(a1.2.2.2.1.2.2.2.1,(a1.2.2.2.1.2.2.2.2.1,(a1.2.2.2.1.2.2.2.2.2.1,(kz,a1.2.2.2.1.2.2.2.2.2.2.2))))))),a1.2.2.2.2)))),nL)) ((fy N r8.2).bind λnW=>some ((a1.1,(a1.2.1,(r9.1,a1.2.2.2))),nW))) ((fy N r8.2).bind λqx=>some ((a1.1,(a1.2.1,((r8.1,a1.2.2.1.2),a1.2.2.2))),qx))) ((fy N r8.2).bind λxe=>some ((a1.1,(a1.2.1,((r8.1,a1.2.2.1.2),a1.2.2.2))),xe))) (cond (aO a2.1 13) ((Gf N a1 a2.2.1).bind λvA=>cond (aO vA 0) ((fy N (3:Int)).bind λxQ=>some (a1,xQ)) (cond (!aO a1.2.2.2.1.2.1 0) ((fy N (6:Int)).bind λzb=>some (a1,zb)) ((lH N a1.2.2.1.1 a2.2.1 a2.1).bind λtR=>cond (!aO tR.2 0) ((fy N tR.2).bind λLk=>some ((a1.1,(a1.2.1,((tR.1,a1.2.2.1.2),a1.2.2.2))),Lk)) ((UB N (a1.1,(a1.2.1,((tR.1,a1.2.2.1.2),a1.2.2.2))) a0.2.2.2.1).bind λLh=>cond (!Lh.2) ((fy N (2:Int)).bind λC8=>some ((a1.1,(a1.2.1,((tR.1,a1.2.2.1.2),a1.2.2.2))),C8)) (some ((a1.1,(a1.2.1,((tR.1,a1.2.2.1.2),((a2.2.1,((1:Int),(Lh.1,((0:Int),(c8,(([]:List ((Int)×((List ((Int)×((Int)×(Unit))))×((Int)×((Int)×((Int)×((Int)×(Unit)))))))),(c8,(dC,(ck,(ck,())))))))))),a1.2.2.2.2)))),bl)))))) (cond (aO a2.1 19) ((Gf N a1 a2.2.1).bind λLi=>cond (aO Li 0) ((fy N (3:Int)).bind λBh=>some (a1,Bh)) ((Gf N a1 a2.2.1).bind λJG=>cond (!aO JG 1) ((fy N (7:Int)).bind λHe=>some (a1,He)) (OA a0 a1 a2 ((0:Int),((0:Int),((ck,(c8,(bG,(bG,(dC,(dQ,())))))),(((0:Int),((0:Int),((0:Int),((0:Int),(c8,(([]:List ((Int)×((List ((Int)×((Int)×(Unit))))×((Int)×((Int)×((Int)×((Int)×(Unit)))))))),(c8,(dC,(ck,(ck,())))))))))),(((0:Int),((0:Int),(De,((0:Int),())))),()))))) bl))) (OA a0 a1 a2 ((0:Int),((0:Int),((ck,(c8,(bG,(bG,(dC,(dQ,())))))),(((0:Int),((0:Int),((0:Int),((0:Int),(c8,(([]:List ((Int)×((List ((Int)×((Int)×(Unit))))×((Int)×((Int)×((Int)×((Int)×(Unit)))))))),(c8,(dC,(ck,(ck,())))))))))),(((0:Int),((0:Int),(De,((0:Int),())))),()))))) bl))))
def pL(N:Nat)(a0:ae)(a1:aQ)(a2:gO):Option (aQ×da):=pL.b N (pL.Uu N) a0 a1 a2
def UD(N:Nat)(a0:ae)(a1:aQ)(a2:gO):Option (aQ×da):=
 cond (aO a2.1 1) ((ig N a1.2.2.1.1 a2.2.1).bind λr1=>(fy N r1.2).bind λr2=>some ((a1.1,(a1.2.1,((r1.1,a1.2.2.1.2),a1.2.2.2))),r2)) (cond (aO a2.1 2) ((fe N a1.2.2.1.1 a1.2.2.1.2.1 (a2.2.2.1,(a2.2.1,(a2.2.2.2.2.1,((0:Int),()))))).bind λr3=>(fy N r3.2).bind λr4=>some ((a1.1,(a1.2.1,((a1.2.2.1.1,(r3.1,a1.2.2.1.2.2)),a1.2.2.2))),r4)) (cond (aO a2.1 3) ((QU N a1 a2.2.2.1).bind λr5=>cond (!r5) ((fy N (3:Int)).bind λr6=>some (a1,r6)) ((N7 N a1 (1:Int) (0:Int) (5:Int) a2.2.2.1 a2.2.2.2.2.2.2.1).bind λr7=>some (r7.1,r7.2))) (cond (aO a2.1 4) ((Up N a0 a1.2.2.1 a2.2.2.1 a2.2.2.2.2.2.2.1).bind λr8=>(fy N r8.2).bind λr9=>some ((a1.1,(a1.2.1,(r8.1,a1.2.2.2))),r9)) (cond (aO a2.1 5) ((Gf N a1 a2.2.1).bind λkz=>cond (aO kz 0) ((fy N (3:Int)).bind λnL=>some (a1,nL)) ((Gf N a1 a2.2.1).bind λnW=>cond (!aO nW 1) ((fy N (7:Int)).bind λqx=>some (a1,qx)) ((N7 N a1 (1:Int) (0:Int) (6:Int) a2.2.1 a2.2.2.2.2.2.2.1).bind λxe=>some (xe.1,xe.2)))) (cond (aO a2.1 22) ((Gf N a1 a2.2.1).bind λvA=>cond (aO vA 0) ((fy N (3:Int)).bind λxQ=>some (a1,xQ)) ((s6 N a1.2.2.1.2.2.1 (7:Int) a2.2.1).bind λzb=>(jz N zb).bind λtR=>(TK N tR).bind λLk=>(jz N a2.2.2.2.2.2.2.1).bind λLh=>(Nj N Lh Lk).bind λC8=>cond (aY 0 C8) ((fy N (9:Int)).bind λLi=>some (a1,Li)) ((N7 N a1 (1:Int) (0:Int) (7:Int) a2.2.1 a2.2.2.2.2.2.2.1).bind λBh=>some (Bh.1,Bh.2)))) (cond (aO a2.1 6) ((nE N a1.2.2.1.2.1 a2.2.2.1 a2.2.2.2.2.2.2.1).bind λJG=>(fy N JG.2).bind λHe=>some ((a1.1,(a1.2.1,((a1.2.2.1.1,(JG.1,a1.2.2.1.2.2)),a1.2.2.2))),He)) (cond (aO a2.1 7) ((ji N a0 a1.2.2.1 (a1.2.1,(a2.2.2.1,(a2.2.2.2.1,(a2.2.2.2.2.1,(a2.2.2.2.2.2.2.1,(a2.2.2.2.2.2.2.2.1,()))))))).bind λBi=>let v27:Int:=W .i64 (a1.2.1+1);some ((a1.1,(v27,(Bi.1,a1.2.2.2))),(Bi.2.2.2,((W .i64 (v27-1)),((W .i64 (a2.2.2.2.2.2.2.1-Bi.2.2.1)),()))))) (cond (aO a2.1 8) ((QU N a1 a2.2.2.1).bind λRa=>cond (!Ra) ((fy N (3:Int)).bind λHf=>some (a1,Hf)) ((nG N a1.2.2.1.2.2.2.2.2.1 a2.2.2.1 a2.2.2.2.2.2.1).bind λr32=>(fy N r32.2).bind λr33=>some ((a1.1,(a1.2.1,((a1.2.2.1.1,(a1.2.2.1.2.1,(a1.2.2.1.2.2.1,(a1.2.2.1.2.2.2.1,(a1.2.2.1.2.2.2.2.1,(r32.1,a1.2.2.1.2.2.2.2.2.2)))))),a1.2.2.2))),r33))) (cond (aO a2.1 9) ((Uo N a0 a1.2.2.1 a2.2.2.2.1 a2.2.2.2.2.2.2.2.1).bind λYm=>cond (aO Ym.2.2 0) (cond (!aO a1.2.2.2.1.2.1 0) ((eP N a1.2.2.2.1.2.2.2.2.2.2.2.2.2.1 Ym.2.1).bind λr35=>(fy N r35.2).bind λr36=>some ((a1.1,(a1.2.1,(Ym.1,((a1.2.2.2.1.1,(a1.2.2.2.1.2.1,(a1.2.2.2.1.2.2.1,(a1.2.2.2.1.2.2.2.1,(a1.2.2.2.1.2.2.2.2.1,(a1.2.2.2.1.2.2.2.2.2.1,(a1.2.2.2.1.2.2.2.2.2.2.1,(a1.2.2.2.1.2.2.2.2.2.2.2.1,(a1.2.2.2.1.2.2.2.2.2.2.2.2.1,(r35.1,a1.2.2.2.1.2.2.2.2.2.2.2.2.2.2)))))))))),a1.2.2.2.2)))),r36)) ((fy N Ym.2.2).bind λr37=>some ((a1.1,(a1.2.1,(Ym.1,a1.2.2.2))),r37))) ((fy N Ym.2.2).bind λr38=>some ((a1.1,(a1.2.1,(Ym.1,a1.2.2.2))),r38))) (cond (aO a2.1 10) ((UB N a1 a2.2.2.2.2.2.2.1).bind λr39=>cond (!r39.2) ((fy N (2:Int)).bind λr40=>some (a1,r40)) (some ((r39.1,a1.2),bl))) ((pL N a0 a1 a2).bind λr41=>some (r41.1,r41.2))))))))))))
def QV(N:Nat)(a0:ae)(a1:aQ)(a2:gO):Option (aQ×da):=
 (lZ N a0).bind λr1=>cond (!r1) (some (a1,((1:Int),cD))) ((rr N a2).bind λr2=>cond (!r2) (some (a1,((1:Int),cD))) ((UD N a0 a1 a2).bind λr3=>cond (!aO r3.2.1 0) (some (a1,(r3.2.1,cD))) (some (r3.1,r3.2))))
abbrev qg.ain:=cC→cT→aQ→Option (aQ×cC×cT)
def qg.l1b(N:Nat)(ast:qg.ain)(x0:cC)(x1:cT)(x4:aQ):Option (aQ×cC×cT):=
 cond (aY x0.2.2.1 (List.length x1:Int)) (cond (ba x0.2.2.1 (List.length x1)) ((QV N x0.1 x0.2.1 (List.getD x1 x0.2.2.1.toNat zz8)).bind λr2=>ast (x0.1,(r2.1,((W .i64 (x0.2.2.1+1)),x0.2.2.2))) x1 x4) (none)) (some (x0.2.1,x0,x1))
def qg.l1(N:Nat):Nat→qg.ain
 |0,_,_,_=>none
 |n+1,x0,x1,x4=>qg.l1b N (qg.l1 N n) x0 x1 x4
def qg.b(N:Nat)(asu:qg.ain)(a0:cC)(a1:cT):Option (aQ×cC×cT):=
 asu a0 a1 ((0:Int),((0:Int),((ck,(c8,(bG,(bG,(dC,(dQ,())))))),(((0:Int),((0:Int),((0:Int),((0:Int),(c8,(([]:List ((Int)×((List ((Int)×((Int)×(Unit))))×((Int)×((Int)×((Int)×((Int)×(Unit)))))))),(c8,(dC,(ck,(ck,())))))))))),(((0:Int),((0:Int),(De,((0:Int),())))),())))))
def qg(N:Nat)(a0:cC)(a1:cT):Option (aQ×cC×cT):=qg.b N (qg.l1 N N) a0 a1
abbrev dU.rO:=aM→cC→cT→aQ→Int→ir→Int→Option (cT×aM×cC)
abbrev dU.eO:=aM→cC→cT→aQ→Int→Option (cT×aM×cC)
abbrev dU.JI:=aM→cC→cT→Option (cT×aM×cC)
abbrev dU.bM:=aM→cC→cT→aQ→Int→Option (cT×aM×cC)
def dU.ye(N:Nat)(fH:dU.eO)(A8:dU.rO)(x0:aM)(x1:cC)(x2:cT)(bx:aQ)(aX:Int)(bb:ir)(bV:Int):Option (cT×aM×cC):=
 cond (dj bV 4) ((QN N x0 (3:Int)).bind λC8=>cond (!C8.1) ((pQ N C8.2 (41:Int)).bind λLi=>let v26:Int:=mx (mn (W .i64 ((W .i64 (bb.2.2.1+Li.1))-20)) (1152921504606846976:Int)) (-1152921504606846976:Int);cond (small (List.length x2+List.length ([((19:Int),(bV,((0:Int),((0:Int),((0:Int),(bb.1,((0:Int),(v26,()))))))))]))) (A8 Li.2 x1 (x2++([((19:Int),(bV,((0:Int),((0:Int),((0:Int),(bb.1,((0:Int),(v26,()))))))))])) bx aX bb (W .i64 (bV+1))) (none)) (A8 C8.2 x1 x2 bx aX bb (W .i64 (bV+1)))) (fH x0 x1 x2 bx (W .i64 (aX+1)))
def dU.yX(N:Nat)(fH:dU.eO):Nat→dU.rO
 |0,_,_,_,_,_,_,_=>none
 |n+1,x0,x1,x2,bx,aX,bb,bV=>dU.ye N fH (dU.yX N fH n) x0 x1 x2 bx aX bb bV
def dU.kP(N:Nat)(GQ:dU.rO)(fH:dU.eO)(x0:aM)(x1:cC)(x2:cT)(bx:aQ)(aX:Int):Option (cT×aM×cC):=
 cond (aY aX (List.length bx.2.2.2.1.2.2.2.2.2.1:Int)) (cond (ba aX (List.length bx.2.2.2.1.2.2.2.2.2.1)) (GQ x0 x1 x2 bx aX (List.getD bx.2.2.2.1.2.2.2.2.2.1 aX.toNat ((0:Int),(ck,aV))) (1:Int)) (none)) ((nD N x0 x1.1).bind λHf=>cond (small (List.length x2+List.length Hf.1)) (let v32:List ((Int)×((Int)×((Int)×((Int)×((Int)×((Int)×((Int)×((Int)×(Unit))))))))):=x2++Hf.1;cond (small (List.length v32+List.length ([((10:Int),((0:Int),((0:Int),((0:Int),((0:Int),((0:Int),((2:Int),((0:Int),())))))))),((20:Int),Lw)]))) (some ((v32++([((10:Int),((0:Int),((0:Int),((0:Int),((0:Int),((0:Int),((2:Int),((0:Int),())))))))),((20:Int),Lw)])),Hf.2,x1)) (none)) (none))
def dU.lj(N:Nat):Nat→dU.eO
 |0,_,_,_,_,_=>none
 |n+1,x0,x1,x2,bx,aX=>dU.kP N (dU.yX N (dU.lj N n) N) (dU.lj N n) x0 x1 x2 bx aX
def dU.BU(N:Nat)(rM:dU.eO)(x0:aM)(x1:cC)(x2:cT):Option (cT×aM×cC):=
 cond (small (List.length x2+List.length ([((18:Int),Lw)]))) ((qg N x1 (x2++([((18:Int),Lw)]))).bind λtR=>rM x0 tR.2.1 tR.2.2 tR.1 (0:Int)) (none)
def dU.HR(N:Nat)(x0:aM)(x1:cC)(x2:cT):Option (cT×aM×cC):=dU.BU N (dU.lj N N) x0 x1 x2
def dU.ed(N:Nat)(xi:dU.JI)(bO:dU.bM)(x0:aM)(x1:cC)(x2:cT)(x7:aQ)(x8:Int):Option (cT×aM×cC):=
 cond (aY x8 (List.length x7.2.2.2.1.2.2.2.2.1:Int)) (cond (ba x8 (List.length x7.2.2.2.1.2.2.2.2.1)) ((QN N x0 (2:Int)).bind λr5=>cond (r5.1) ((pQ N r5.2 (7:Int)).bind λr6=>let v7:Int:=W .i64 ((1:Int)+r6.1);(F62 N r6.2).bind λr8=>let v9:Int:=W .u64 (((((List.getD x7.2.2.2.1.2.2.2.2.1 x8.toNat aV).2).2).2).1);cond (aO v9 0) (none) (let Yu:Int:=W .i64 ((1:Int)+(W .i64 (rem r8.1 v9)));cond (ba (((List.getD x7.2.2.2.1.2.2.2.2.1 x8.toNat aV).2).1) (List.length x7.2.2.1.2.2.2.2.1)) (cond (small (List.length x2+List.length ([((17:Int),((0:Int),(v7,((0:Int),((0:Int),((List.getD x7.2.2.2.1.2.2.2.2.1 x8.toNat aV).1,(Yu,(List.getD x7.2.2.1.2.2.2.2.1 (((List.getD x7.2.2.2.1.2.2.2.2.1 x8.toNat aV).2).1).toNat (0:Int),()))))))))]))) (bO r8.2 x1 (x2++([((17:Int),((0:Int),(v7,((0:Int),((0:Int),((List.getD x7.2.2.2.1.2.2.2.2.1 x8.toNat aV).1,(Yu,(List.getD x7.2.2.1.2.2.2.2.1 (((List.getD x7.2.2.2.1.2.2.2.2.1 x8.toNat aV).2).1).toNat (0:Int),()))))))))])) x7 (W .i64 (x8+1))) (none)) (none))) (bO r5.2 x1 x2 x7 (W .i64 (x8+1)))) (none)) (xi x0 x1 x2)
def dU.l5(N:Nat):Nat→dU.bM
 |0,_,_,_,_,_=>none
 |n+1,x0,x1,x2,x7,x8=>dU.ed N (dU.HR N) (dU.l5 N n) x0 x1 x2 x7 x8
def dU.b(N:Nat)(eW:dU.bM)(xi:dU.JI)(a0:aM)(a1:cC)(a2:cT):Option (cT×aM×cC):=
 (QN N a0 (2:Int)).bind λr1=>cond (r1.1) (cond (small (List.length a2+List.length ([((16:Int),Lw)]))) ((qg N a1 (a2++([((16:Int),Lw)]))).bind λr3=>eW r1.2 r3.2.1 r3.2.2 r3.1 (0:Int)) (none)) (xi r1.2 a1 a2)
def dU(N:Nat)(a0:aM)(a1:cC)(a2:cT):Option (cT×aM×cC):=dU.b N (dU.l5 N N) (dU.HR N) a0 a1 a2
abbrev jl.rO:=aM→ae→cC→cT→Int→Option (cT×aM)
abbrev jl.mv:=aM→ae→cC→cT→Int→Option (cT×aM)
def jl.ye(N:Nat)(A8:jl.rO)(x0:aM)(x4:ae)(x9:cC)(bx:cT)(bV:Int):Option (cT×aM):=
 cond (aY 0 bV) ((dU N x0 x9 bx).bind λHe=>A8 He.2.1 x4 He.2.2 He.1 (W .i64 (bV-1))) ((QN N x0 (4:Int)).bind λLg=>cond (!Lg.1) (cond (small (List.length bx+List.length ([((21:Int),Lw)]))) (let v28:List ((Int)×((Int)×((Int)×((Int)×((Int)×((Int)×((Int)×((Int)×(Unit))))))))):=bx++([((21:Int),Lw)]);(nD N Lg.2 x4).bind λEa=>cond (small (List.length v28+List.length Ea.1)) (some ((v28++Ea.1),Ea.2)) (none)) (none)) ((nD N Lg.2 x4).bind λHf=>cond (small (List.length bx+List.length Hf.1)) (some ((bx++Hf.1),Hf.2)) (none)))
def jl.yX(N:Nat):Nat→jl.rO
 |0,_,_,_,_,_=>none
 |n+1,x0,x4,x9,bx,bV=>jl.ye N (jl.yX N n) x0 x4 x9 bx bV
def jl.xA(N:Nat)(GQ:jl.rO)(rN:jl.mv)(x0:aM)(x4:ae)(x9:cC)(bx:cT)(bb:Int):Option (cT×aM):=
 cond (dj bb 7) ((QN N x0 (3:Int)).bind λkz=>cond (kz.1) ((pQ N kz.2 (2:Int)).bind λnL=>let Yu:Int:=W .i64 ((3:Int)+nL.1);cond (small (List.length bx+List.length ([((14:Int),(Yu,(bb,mI)))]))) (rN nL.2 x4 x9 (bx++([((14:Int),(Yu,(bb,mI)))])) (W .i64 (bb+1))) (none)) (rN kz.2 x4 x9 bx (W .i64 (bb+1)))) ((nD N x0 x4).bind λxQ=>cond (small (List.length bx+List.length xQ.1)) (let v17:List ((Int)×((Int)×((Int)×((Int)×((Int)×((Int)×((Int)×((Int)×(Unit))))))))):=bx++xQ.1;(pQ N xQ.2 (2:Int)).bind λtR=>let v19:Int:=W .i64 ((2:Int)+tR.1);cond (small (List.length v17+List.length ([((10:Int),((0:Int),((0:Int),((0:Int),((0:Int),((0:Int),(v19,((0:Int),())))))))),((15:Int),Lw)]))) (let v20:List ((Int)×((Int)×((Int)×((Int)×((Int)×((Int)×((Int)×((Int)×(Unit))))))))):=v17++([((10:Int),((0:Int),((0:Int),((0:Int),((0:Int),((0:Int),(v19,((0:Int),())))))))),((15:Int),Lw)]);(nD N tR.2 x4).bind λC8=>cond (small (List.length v20+List.length C8.1)) ((pQ N C8.2 (3:Int)).bind λBh=>GQ Bh.2 x4 x9 (v20++C8.1) Bh.1) (none)) (none)) (none))
def jl.l9(N:Nat):Nat→jl.mv
 |0,_,_,_,_,_=>none
 |n+1,x0,x4,x9,bx,bb=>jl.xA N (jl.yX N N) (jl.l9 N n) x0 x4 x9 bx bb
def jl.b(N:Nat)(ze:jl.mv)(a0:aM)(a1:ae)(a2:Int):Option (cT×aM):=
 (Yb N a1).bind λr1=>(pK N a0 a1 a2).bind λr2=>(pQ N r2.2 (2:Int)).bind λr3=>let v4:Int:=W .i64 ((1:Int)+r3.1);cond (small (List.length r2.1+List.length ([((11:Int),(v4,fa))]))) (let v5:List ((Int)×((Int)×((Int)×((Int)×((Int)×((Int)×((Int)×((Int)×(Unit))))))))):=r2.1++([((11:Int),(v4,fa))]);(nD N r3.2 a1).bind λr6=>cond (small (List.length v5+List.length r6.1)) (let v7:List ((Int)×((Int)×((Int)×((Int)×((Int)×((Int)×((Int)×((Int)×(Unit))))))))):=v5++r6.1;cond (small (List.length v7+List.length ([((13:Int),(v4,fa))]))) (ze r6.2 a1 (a1,(r1.1,((0:Int),()))) (v7++([((13:Int),(v4,fa))])) (5:Int)) (none)) (none)) (none)
def jl(N:Nat)(a0:aM)(a1:ae)(a2:Int):Option (cT×aM):=jl.b N (jl.l9 N N) a0 a1 a2
abbrev Gy.bM:=aM→ae→cT→Int→Option (cT×aM)
def Gy.ed(N:Nat)(bO:Gy.bM)(x0:aM)(x4:ae)(x7:cT)(x8:Int):Option (cT×aM):=
 cond (aY 0 x8) ((Ui N x0 x4).bind λr5=>cond (small (List.length x7+List.length ([r5.1]))) (bO r5.2 x4 (x7++([r5.1])) (W .i64 (x8-1))) (none)) (some (x7,x0))
def Gy.l5(N:Nat):Nat→Gy.bM
 |0,_,_,_,_=>none
 |n+1,x0,x4,x7,x8=>Gy.ed N (Gy.l5 N n) x0 x4 x7 x8
def Gy.b(N:Nat)(eW:Gy.bM)(a0:aM)(a1:ae)(a2:Int):Option (cT×aM):=
 (pQ N a0 (5:Int)).bind λr1=>cond (aO r1.1 0) ((pQ N r1.2 (W .i64 (a2+1))).bind λr3=>eW r3.2 a1 ([]) r3.1) (cond (aO r1.1 1) ((pK N r1.2 a1 a2).bind λr8=>some (r8.1,r8.2)) ((jl N r1.2 a1 a2).bind λr9=>some (r9.1,r9.2)))
def Gy(N:Nat)(a0:aM)(a1:ae)(a2:Int):Option (cT×aM):=Gy.b N (Gy.l5 N N) a0 a1 a2
abbrev Gx.jD:=cT→ae→aQ→aQ→au→Int→Option (aQ×au)
def Gx.uw(N:Nat)(kA:Gx.jD)(x1:cT)(x2:ae)(x4:aQ)(x6:aQ)(x8:au)(x9:Int):Option (aQ×au):=
 cond (aY x9 (List.length x1:Int)) (cond (ba x9 (List.length x1)) ((QV N x2 x6 (List.getD x1 x9.toNat zz8)).bind λr3=>cond (small (List.length x8+List.length ([r3.2]))) (kA x1 x2 x4 r3.1 (x8++([r3.2])) (W .i64 (x9+1))) (none)) (none)) (some (x6,x8))
def Gx.l6(N:Nat):Nat→Gx.jD
 |0,_,_,_,_,_,_=>none
 |n+1,x1,x2,x4,x6,x8,x9=>Gx.uw N (Gx.l6 N n) x1 x2 x4 x6 x8 x9
def Gx.b(N:Nat)(xd:Gx.jD)(a0:ae)(a1:cT):Option (aQ×au):=
 (Yb N a0).bind λr1=>cond (!aO r1.2 0) (some (((0:Int),((0:Int),((ck,(c8,(bG,(bG,(dC,(dQ,())))))),(((0:Int),((0:Int),((0:Int),((0:Int),(c8,(([]:List ((Int)×((List ((Int)×((Int)×(Unit))))×((Int)×((Int)×((Int)×((Int)×(Unit)))))))),(c8,(dC,(ck,(ck,())))))))))),(((0:Int),((0:Int),(De,((0:Int),())))),()))))),[])) (xd a1 a0 ((0:Int),((0:Int),((ck,(c8,(bG,(bG,(dC,(dQ,())))))),(((0:Int),((0:Int),((0:Int),((0:Int),(c8,(([]:List ((Int)×((List ((Int)×((Int)×(Unit))))×((Int)×((Int)×((Int)×((Int)×(Unit)))))))),(c8,(dC,(ck,(ck,())))))))))),(((0:Int),((0:Int),(De,((0:Int),())))),()))))) r1.1 ([]) (0:Int))
def Gx(N:Nat)(a0:ae)(a1:cT):Option (aQ×au):=Gx.b N (Gx.l6 N N) a0 a1
def F18(N:Nat)(a0:aM)(a1:ae)(a2:Int):Option (aQ×aM):=
 (Gy N a0 a1 a2).bind λr1=>(Gx N a1 r1.1).bind λr2=>some (r2.1,r1.2)
abbrev DD.bS:=bs→bs→Int→Option (Bool)
def DD.ei(N:Nat)(cF:DD.bS)(x0:bs)(x1:bs)(x5:Int):Option (Bool):=
 cond (aY x5 (List.length x0:Int)) (cond (ba x5 (List.length x0)) (cond (ba x5 (List.length x1)) (cond (!(ql (.pair (.int .i64) (.pair (.int .i64) (.pair (.int .i64) (.pair (.int .i64) (.pair (.int .i64) (.pair (.int .i64) .unit)))))) (List.getD x0 x5.toNat fa) (List.getD x1 x5.toNat fa))) (some false) (cF x0 x1 (W .i64 (x5+1)))) (none)) (none)) (some true)
def DD.l4(N:Nat):Nat→DD.bS
 |0,_,_,_=>none
 |n+1,x0,x1,x5=>DD.ei N (DD.l4 N n) x0 x1 x5
def DD.b(N:Nat)(fE:DD.bS)(a0:bs)(a1:bs):Option (Bool):=
 cond (!aO (List.length a0:Int) (List.length a1:Int)) (some false) (fE a0 a1 (0:Int))
def DD(N:Nat)(a0:bs)(a1:bs):Option (Bool):=DD.b N (DD.l4 N N) a0 a1
abbrev DC.bS:=aK→aK→Int→Option (Bool)
def DC.ei(N:Nat)(cF:DC.bS)(x0:aK)(x1:aK)(x5:Int):Option (Bool):=
 cond (aY x5 (List.length x0:Int)) (cond (ba x5 (List.length x0)) (cond (ba x5 (List.length x1)) (cond (!(ql (.pair (.int .i64) (.pair (.int .i64) (.pair (.int .i64) (.pair (.int .i64) .unit)))) (List.getD x0 x5.toNat aV) (List.getD x1 x5.toNat aV))) (some false) (cF x0 x1 (W .i64 (x5+1)))) (none)) (none)) (some true)
def DC.l4(N:Nat):Nat→DC.bS
 |0,_,_,_=>none
 |n+1,x0,x1,x5=>DC.ei N (DC.l4 N n) x0 x1 x5
def DC.b(N:Nat)(fE:DC.bS)(a0:aK)(a1:aK):Option (Bool):=
 cond (!aO (List.length a0:Int) (List.length a1:Int)) (some false) (fE a0 a1 (0:Int))
def DC(N:Nat)(a0:aK)(a1:aK):Option (Bool):=DC.b N (DC.l4 N N) a0 a1
abbrev F4.rO:=ae→an→Int→an→Int→aH→Int→Option (Bool)
abbrev F4.eO:=ae→an→Int→an→Int→Option (Bool)
def F4.ye(N:Nat)(fH:F4.eO)(A8:F4.rO)(x6:ae)(x7:an)(x8:Int)(x9:an)(aX:Int)(bb:aH)(bV:Int):Option (Bool):=
 cond (aY bV (List.length x7.2.1:Int)) (cond (ba bV (List.length x7.2.1)) ((yZ N x7.2.2.2.1 ((List.getD x7.2.1 bV.toNat aV).1) aX).bind λzb=>(yZ N x9.2.2.2.1 ((List.getD x7.2.1 bV.toNat aV).1) aX).bind λtR=>cond (aO (((List.getD x7.2.1 bV.toNat aV).2).1) x8) ((jz N zb).bind λLk=>(yR N bb Lk).bind λLh=>cond (!aO tR 0) (some false) ((s6 N x9.2.2.1 (5:Int) ((List.getD x7.2.1 bV.toNat aV).1)).bind λC8=>cond (aY C8 0) (some false) (A8 x6 x7 x8 x9 aX Lh (W .i64 (bV+1))))) (cond (!aO tR zb) (some false) ((s6 N x9.2.2.1 (5:Int) ((List.getD x7.2.1 bV.toNat aV).1)).bind λBh=>(s6 N x7.2.2.1 (5:Int) ((List.getD x7.2.1 bV.toNat aV).1)).bind λJG=>cond (!aO Bh JG) (some false) (A8 x6 x7 x8 x9 aX bb (W .i64 (bV+1)))))) (none)) ((yZ N x9.2.2.2.1 (0:Int) aX).bind λBi=>(jz N Bi).bind λLg=>(Nj N bb Lg).bind λY9=>cond (!aO Y9 0) (some false) (fH x6 x7 x8 x9 (W .i64 (aX+1))))
def F4.yX(N:Nat)(fH:F4.eO):Nat→F4.rO
 |0,_,_,_,_,_,_,_=>none
 |n+1,x6,x7,x8,x9,aX,bb,bV=>F4.ye N fH (F4.yX N fH n) x6 x7 x8 x9 aX bb bV
def F4.kP(N:Nat)(GQ:F4.rO)(fH:F4.eO)(x6:ae)(x7:an)(x8:Int)(x9:an)(aX:Int):Option (Bool):=
 cond (aY aX (List.length x6.1:Int)) ((yZ N x7.2.2.2.1 (0:Int) aX).bind λxe=>(jz N xe).bind λvA=>GQ x6 x7 x8 x9 aX vA (0:Int)) (some true)
def F4.lj(N:Nat):Nat→F4.eO
 |0,_,_,_,_,_=>none
 |n+1,x6,x7,x8,x9,aX=>F4.kP N (F4.yX N (F4.lj N n) N) (F4.lj N n) x6 x7 x8 x9 aX
def F4.b(N:Nat)(rM:F4.eO)(a0:List (Int))(a1:Int):Option (Bool):=
 (F15 N).bind λr1=>cond (!r1) (some false) ((F16 N a0).bind λr2=>(uY N r2).bind λr3=>(F18 N r3.2 r3.1 (30:Int)).bind λr4=>cond (aO 5 0) (none) (let v7:Int:=W .i64 ((1:Int)+(W .i64 (rem a1 5)));(sY N r3.1 r4.1.2.2.1 v7).bind λr8=>cond (!aO r8.2 0) (cond (aO r8.2 2) (some true) (cond (aO r8.2 3) ((Qq N r4.1.2.2.1.1 v7).bind λr9=>some (aO r9 0)) (some false))) ((lh N r3.1 r8.1).bind λkz=>cond (!kz) (some false) ((DD N r8.1.2.2.2.2.2.1 r4.1.2.2.1.2.2.2.2.2.1).bind λnL=>cond (!nL) (some false) ((DC N r8.1.2.1 r4.1.2.2.1.2.1).bind λnW=>cond (!nW) (some false) (rM r3.1 r4.1.2.2.1 v7 r8.1 (0:Int)))))))
def F4(N:Nat)(a0:List (Int))(a1:Int):Option (Bool):=F4.b N (F4.lj N N) a0 a1
end
end VM.F
