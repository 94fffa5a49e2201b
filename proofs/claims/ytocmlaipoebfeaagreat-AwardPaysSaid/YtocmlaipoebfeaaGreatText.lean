/- A part of the proof of AwardPays of layer 25: the functions as equations between values, printed by a program. -/
import Derived.Test.YtocmlaipoebfeaaGreatVm0
set_option linter.all false
namespace VM.F
open Go VM
set_option maxRecDepth 100000
noncomputable section
abbrev qo:Ty:=(.pair .str .unit)
abbrev hQ:Ty:=(.pair .str (.pair (.int .u64) .unit))
abbrev gW:Ty:=(.pair (.int .i64) (.pair (.int .i64) .unit))
abbrev g5:Ty:=(.pair (.int .i64) (.pair (.int .u64) .unit))
abbrev bC:Ty:=(.pair .bool (.pair (.slice (.int .u64)) .unit))
abbrev c7:Ty:=(.pair (.slice (.int .u64)) (.pair (.int .i64) .unit))
abbrev gk:Ty:=(.pair (.int .i64) gW)
abbrev qp:Ty:=(.pair (.int .i64) (.pair (.int .i64) (.pair .bool (.pair (.int .u8) .unit))))
abbrev cN:Ty:=(.pair (.int .i64) gk)
abbrev rS:Ty:=(.pair (.int .i64) (.pair (.int .i64) (.pair g5 .unit)))
abbrev pn:Ty:=(.pair (.int .i64) cN)
abbrev ny:Ty:=(.pair (.int .i64) (.pair (.int .i64) (.pair bC .unit)))
abbrev jR:Ty:=(.pair (.int .i64) pn)
abbrev mI:Ty:=(.pair (.int .i64) (.pair (.int .i64) jR))
abbrev dF:Ty:=(.pair (.int .i64) (.pair (.slice gW) cN))
abbrev eg:Ty:=(.pair (.int .i64) (.pair (.int .i64) (.pair (.slice pn) (.pair (.int .i64) .unit))))
abbrev an:Ty:=(.pair (.slice cN) jR)
abbrev aB:Ty:=(.pair (.slice gW) (.pair (.slice cN) (.pair (.slice gk) (.pair (.slice gk) (.pair (.slice (.int .i64)) (.pair (.slice jR) .unit))))))
abbrev lC:Ty:=(.pair (.int .i64) (.pair (.int .i64) (.pair (.int .i64) (.pair (.int .i64) (.pair (.slice cN) (.pair (.slice dF) (.pair (.slice cN) (.pair (.slice (.int .i64)) (.pair (.slice gW) (.pair (.slice gW) .unit))))))))))
abbrev bJ:Ty:=(.pair (.int .i64) (.pair (.int .i64) (.pair aB (.pair lC (.pair eg .unit)))))
abbrev QU:=Ty.den qo
abbrev QV:=List (Ty.den qo)
abbrev Gh:=Ty.den hQ
abbrev Gi:=List (Ty.den hQ)
abbrev LH:=Ty.den gW
abbrev ax:=List (Ty.den gW)
abbrev de:=Ty.den g5
abbrev hZ:=List (Ty.den g5)
abbrev aq:=Ty.den bC
abbrev lz:=List (Ty.den bC)
abbrev aJ:=Ty.den c7
abbrev akF:=List (Ty.den c7)
abbrev cE:=Ty.den gk
abbrev aj:=List (Ty.den gk)
abbrev QW:=Ty.den qp
abbrev QX:=List (Ty.den qp)
abbrev bn:=Ty.den cN
abbrev ay:=List (Ty.den cN)
abbrev p7:=Ty.den rS
abbrev cm:=List (Ty.den rS)
abbrev qO:=Ty.den pn
abbrev bg:=List (Ty.den pn)
abbrev akG:=Ty.den ny
abbrev bl:=List (Ty.den ny)
abbrev eG:=Ty.den jR
abbrev a6:=List (Ty.den jR)
abbrev fK:=Ty.den mI
abbrev fW:=List (Ty.den mI)
abbrev cq:=Ty.den dF
abbrev az:=List (Ty.den dF)
abbrev cT:=Ty.den eg
abbrev afk:=List (Ty.den eg)
abbrev aa:=Ty.den an
abbrev afl:=List (Ty.den an)
abbrev ag:=Ty.den aB
abbrev akH:=List (Ty.den aB)
abbrev adg:=Ty.den lC
abbrev adh:=List (Ty.den lC)
abbrev aE:=Ty.den bJ
abbrev aiX:=List (Ty.den bJ)
def F51(N:Nat):Option (aa×ag×az):=
 some (([((0:Int),((100:Int),bR))],((0:Int),((0:Int),((0:Int),((0:Int),((1:Int),((0:Int),()))))))),([((1:Int),((1:Int),())),((2:Int),((1:Int),()))],([((1:Int),((1:Int),((1:Int),((0:Int),())))),((2:Int),((2:Int),((1:Int),((0:Int),()))))],(ba,([((0:Int),((0:Int),((5:Int),()))),((2:Int),((0:Int),((-5:Int),())))],([(100:Int)],(cL,())))))),[((3:Int),([((0:Int),((3:Int),()))],((0:Int),((1:Int),bR)))),((4:Int),([((0:Int),((2:Int),()))],((0:Int),((1:Int),bR))))])
def Sb(N:Nat)(a0:bn):Option (Bool):=
 cond (bX 1 a0.1) (cond (bX a0.1 1099511627776) (cond (bX 1 a0.2.1) (cond (bX a0.2.1 1099511627776) (cond (bX 1 a0.2.2.1) (cond (bX a0.2.2.1 12) (cond (bX (-1152921504606846976) a0.2.2.2.1) (some (bX a0.2.2.2.1 1152921504606846976)) (some false)) (some false)) (some false)) (some false)) (some false)) (some false)) (some false)
def Sc(N:Nat)(a0:bn)(a1:Int)(a2:Int):Option (Bool):=
 cond (aA a0.2.2.1 a1) (some (aA a0.2.1 a2)) (some false)
abbrev nL.bQ:=ay→(((Int)×(Unit))×(((Int)×(Unit))×(Unit)))→Int→Int→Option (Int)
def nL.dP(N:Nat)(cJ:nL.bQ)(x0:ay)(x1:((Int)×(Unit))×(((Int)×(Unit))×(Unit)))(x7:Int)(x8:Int):Option (Int):=
 cond (aL x8 x7) (cond (aM x8 (List.length x0)) ((Sc N (List.getD x0 x8.toNat aC) x1.1.1 x1.2.1.1).bind fun r2=>cond (r2) (some x8) (cJ x0 ((x1.1.1,()),((x1.2.1.1,()),())) x7 (W .i64 (x8+1)))) (none)) (some (-1:Int))
def nL.l2(N:Nat):Nat→nL.bQ
 |0,_,_,_,_=>none
 |n+1,x0,x1,x7,x8=>nL.dP N (nL.l2 N n) x0 x1 x7 x8
def nL.b(N:Nat)(eW:nL.bQ)(a0:ay)(a1:((Int)×(Unit))×(((Int)×(Unit))×(Unit))):Option (Int):=
 eW a0 ((a1.1.1,()),((a1.2.1.1,()),())) (List.length a0:Int) (0:Int)
def nL(N:Nat)(a0:ay)(a1:((Int)×(Unit))×(((Int)×(Unit))×(Unit))):Option (Int):=nL.b N (nL.l2 N N) a0 a1
def Zr(N:Nat)(a0:ay)(a1:((Int)×(Unit))×(((Int)×(Unit))×(Unit))):Option (Bool):=
 (nL N a0 ((a1.1.1,()),((a1.2.1.1,()),()))).bind fun r1=>some (bX 0 r1)
def OG(N:Nat)(a0:ay)(a1:Int)(a2:Int):Option (Bool):=
 (Zr N a0 ((a1,()),((a2,()),()))).bind fun r1=>some r1
abbrev w1.bQ:=ay→ay→Int→Int→Option (Bool)
def w1.dP(N:Nat)(cJ:w1.bQ)(x0:ay)(x5:ay)(x6:Int)(x7:Int):Option (Bool):=
 cond (aL x7 x6) (cond (aM x7 (List.length x5)) ((Sb N (List.getD x5 x7.toNat aC)).bind fun r2=>cond (!r2) (some false) (cond (aL 0 x7) (let v3:Int:=W .i64 (x7-1);cond (aM v3 (List.length x0)) (cond (bX ((List.getD x5 x7.toNat aC).1) ((List.getD x0 v3.toNat aC).1)) (some false) (cond (fM 0 x7 (List.length x0:Int) (List.length x0:Int)) ((OG N (List.drop (0:Int).toNat (List.take x7.toNat x0)) ((((List.getD x5 x7.toNat aC).2).2).1) (((List.getD x5 x7.toNat aC).2).1)).bind fun r5=>cond (r5) (some false) (cJ x0 x5 x6 (W .i64 (x7+1)))) (none))) (none)) (cond (fM 0 x7 (List.length x0:Int) (List.length x0:Int)) ((OG N (List.drop (0:Int).toNat (List.take x7.toNat x0)) ((((List.getD x5 x7.toNat aC).2).2).1) (((List.getD x5 x7.toNat aC).2).1)).bind fun r8=>cond (r8) (some false) (cJ x0 x5 x6 (W .i64 (x7+1)))) (none)))) (none)) (some (bX (List.length x0:Int) 40))
def w1.l2(N:Nat):Nat→w1.bQ
 |0,_,_,_,_=>none
 |n+1,x0,x5,x6,x7=>w1.dP N (w1.l2 N n) x0 x5 x6 x7
def w1.b(N:Nat)(eW:w1.bQ)(a0:ay):Option (Bool):=
 eW a0 a0 (List.length a0:Int) (0:Int)
def w1(N:Nat)(a0:ay):Option (Bool):=w1.b N (w1.l2 N N) a0
abbrev vg.bm:=Int→bn→bn→ay→Int→Int→Option (bn×(Bool))
def vg.dr(N:Nat)(bh:vg.bm)(x1:Int)(x4:bn)(x6:bn)(bb:ay)(bs:Int)(bz:Int):Option (bn×(Bool)):=
 cond (aL bz bs) (cond (aM bz (List.length bb)) (cond (aA (((List.getD bb bz.toNat aC).2).1) x1) (cond (aA x6.1 0) (bh x1 x4 (List.getD bb bz.toNat aC) bb bs (W .i64 (bz+1))) (cond (aL x6.2.2.2.1 (((((List.getD bb bz.toNat aC).2).2).2).1)) (bh x1 x4 (List.getD bb bz.toNat aC) bb bs (W .i64 (bz+1))) (bh x1 x4 x6 bb bs (W .i64 (bz+1))))) (bh x1 x4 x6 bb bs (W .i64 (bz+1)))) (none)) (some (x6,!aA x6.1 0))
def vg.l5(N:Nat):Nat→vg.bm
 |0,_,_,_,_,_,_=>none
 |n+1,x1,x4,x6,bb,bs,bz=>vg.dr N (vg.l5 N n) x1 x4 x6 bb bs bz
def vg.b(N:Nat)(dT:vg.bm)(a0:ay)(a1:Int):Option (bn×(Bool)):=
 (w1 N a0).bind fun r1=>cond (!r1) (some (aC,false)) (dT a1 aC aC a0 (List.length a0:Int) (0:Int))
def vg(N:Nat)(a0:ay)(a1:Int):Option (bn×(Bool)):=vg.b N (vg.l5 N N) a0 a1
def xE(N:Nat)(a0:Int)(a1:Int)(a2:Int):Option (Bool):=
 cond (bX a1 a0) (some (bX a0 a2)) (some false)
abbrev vQ.bk:=aa→ay→Int→Int→Option (Bool)
def vQ.cY(N:Nat)(bA:vQ.bk)(x1:aa)(aF:ay)(aN:Int)(bb:Int):Option (Bool):=
 cond (aL bb aN) (cond (aM bb (List.length aF)) ((xE N ((List.getD aF bb.toNat aC).1) (0:Int) (3:Int)).bind fun r3=>cond (!r3) (some false) ((xE N (((List.getD aF bb.toNat aC).2).1) (1:Int) (1000000000000:Int)).bind fun r4=>cond (!r4) (some false) ((xE N ((((List.getD aF bb.toNat aC).2).2).1) (0:Int) (1000000000:Int)).bind fun r5=>cond (!r5) (some false) ((xE N (((((List.getD aF bb.toNat aC).2).2).2).1) (0:Int) (1000000000:Int)).bind fun r6=>cond (!r6) (some false) (bA x1 aF aN (W .i64 (bb+1))))))) (none)) (cond (bX 0 x1.2.1) ((xE N x1.2.2.1 (0:Int) (4:Int)).bind fun r8=>cond (r8) ((xE N x1.2.2.2.1 (0:Int) (1000000:Int)).bind fun r9=>cond (r9) ((xE N x1.2.2.2.2.1 (0:Int) (1000000:Int)).bind fun jL=>cond (jL) ((xE N x1.2.2.2.2.2.1 (1:Int) (4611686018427387904:Int)).bind fun lW=>cond (lW) (some (bX 0 x1.2.2.2.2.2.2.1)) (some false)) (some false)) (some false)) (some false)) (some false))
def vQ.l4(N:Nat):Nat→vQ.bk
 |0,_,_,_,_=>none
 |n+1,x1,aF,aN,bb=>vQ.cY N (vQ.l4 N n) x1 aF aN bb
def vQ.b(N:Nat)(dG:vQ.bk)(a0:aa):Option (Bool):=
 (xE N (List.length a0.1:Int) (1:Int) (6:Int)).bind fun r1=>cond (!r1) (some false) (dG a0 a0.1 (List.length a0.1:Int) (0:Int))
def vQ(N:Nat)(a0:aa):Option (Bool):=vQ.b N (vQ.l4 N N) a0
abbrev kV.bQ:=ax→ax→Int→Int→Option (Bool)
def kV.dP(N:Nat)(cJ:kV.bQ)(x0:ax)(x5:ax)(x6:Int)(x7:Int):Option (Bool):=
 cond (aL x7 x6) (cond (aM x7 (List.length x5)) (cond (aL ((List.getD x5 x7.toNat bR).1) (1:Int)) (some false) (cond (aL 12 ((List.getD x5 x7.toNat bR).1)) (some false) (cond (aL (((List.getD x5 x7.toNat bR).2).1) (1:Int)) (some false) (cond (aL 4 (((List.getD x5 x7.toNat bR).2).1)) (some false) (cond (aL 0 x7) (let v2:Int:=W .i64 (x7-1);cond (aM v2 (List.length x0)) (cond (bX ((List.getD x5 x7.toNat bR).1) ((List.getD x0 v2.toNat bR).1)) (some false) (cJ x0 x5 x6 (W .i64 (x7+1)))) (none)) (cJ x0 x5 x6 (W .i64 (x7+1)))))))) (none)) (some true)
def kV.l2(N:Nat):Nat→kV.bQ
 |0,_,_,_,_=>none
 |n+1,x0,x5,x6,x7=>kV.dP N (kV.l2 N n) x0 x5 x6 x7
def kV.b(N:Nat)(eW:kV.bQ)(a0:ax):Option (Bool):=
 eW a0 a0 (List.length a0:Int) (0:Int)
def kV(N:Nat)(a0:ax):Option (Bool):=kV.b N (kV.l2 N N) a0
abbrev iN.cB:=ay→(List (Bool))→ay→Int→Int→Option (Bool)
def iN.ji(N:Nat)(ck:iN.cB)(x0:ay)(x3:List (Bool))(x6:ay)(x7:Int)(x8:Int):Option (Bool):=
 cond (aL x8 x7) (cond (aM x8 (List.length x6)) (cond (aL ((List.getD x6 x8.toNat aC).1) (1:Int)) (some false) (cond (aL 24 ((List.getD x6 x8.toNat aC).1)) (some false) (cond (aL (((List.getD x6 x8.toNat aC).2).1) (1:Int)) (some false) (cond (aL 12 (((List.getD x6 x8.toNat aC).2).1)) (some false) (cond (!aA ((((List.getD x6 x8.toNat aC).2).2).1) (1:Int)) (cond (!aA ((((List.getD x6 x8.toNat aC).2).2).1) (2:Int)) (some false) (cond (aL (((((List.getD x6 x8.toNat aC).2).2).2).1) (0:Int)) (some false) (cond (aL 1000000000000 (((((List.getD x6 x8.toNat aC).2).2).2).1)) (some false) (cond (aL 0 x8) (let v2:Int:=W .i64 (x8-1);cond (aM v2 (List.length x0)) (cond (bX ((List.getD x6 x8.toNat aC).1) ((List.getD x0 v2.toNat aC).1)) (some false) (cond (aA ((((List.getD x6 x8.toNat aC).2).2).1) (1:Int)) (cond (aM (((List.getD x6 x8.toNat aC).2).1) 13) (cond (List.getD x3 (((List.getD x6 x8.toNat aC).2).1).toNat false) (some false) (cond (aM (((List.getD x6 x8.toNat aC).2).1) 13) (ck x0 (List.set x3 (((List.getD x6 x8.toNat aC).2).1).toNat true) x6 x7 (W .i64 (x8+1))) (none))) (none)) (ck x0 x3 x6 x7 (W .i64 (x8+1))))) (none)) (cond (aA ((((List.getD x6 x8.toNat aC).2).2).1) (1:Int)) (cond (aM (((List.getD x6 x8.toNat aC).2).1) 13) (cond (List.getD x3 (((List.getD x6 x8.toNat aC).2).1).toNat false) (some false) (cond (aM (((List.getD x6 x8.toNat aC).2).1) 13) (ck x0 (List.set x3 (((List.getD x6 x8.toNat aC).2).1).toNat true) x6 x7 (W .i64 (x8+1))) (none))) (none)) (ck x0 x3 x6 x7 (W .i64 (x8+1)))))))) (cond (aL (((((List.getD x6 x8.toNat aC).2).2).2).1) (0:Int)) (some false) (cond (aL 1000000000000 (((((List.getD x6 x8.toNat aC).2).2).2).1)) (some false) (cond (aL 0 x8) (let v7:Int:=W .i64 (x8-1);cond (aM v7 (List.length x0)) (cond (bX ((List.getD x6 x8.toNat aC).1) ((List.getD x0 v7.toNat aC).1)) (some false) (cond (aA ((((List.getD x6 x8.toNat aC).2).2).1) (1:Int)) (cond (aM (((List.getD x6 x8.toNat aC).2).1) 13) (cond (List.getD x3 (((List.getD x6 x8.toNat aC).2).1).toNat false) (some false) (cond (aM (((List.getD x6 x8.toNat aC).2).1) 13) (ck x0 (List.set x3 (((List.getD x6 x8.toNat aC).2).1).toNat true) x6 x7 (W .i64 (x8+1))) (none))) (none)) (ck x0 x3 x6 x7 (W .i64 (x8+1))))) (none)) (cond (aA ((((List.getD x6 x8.toNat aC).2).2).1) (1:Int)) (cond (aM (((List.getD x6 x8.toNat aC).2).1) 13) (cond (List.getD x3 (((List.getD x6 x8.toNat aC).2).1).toNat false) (some false) (cond (aM (((List.getD x6 x8.toNat aC).2).1) 13) (ck x0 (List.set x3 (((List.getD x6 x8.toNat aC).2).1).toNat true) x6 x7 (W .i64 (x8+1))) (none))) (none)) (ck x0 x3 x6 x7 (W .i64 (x8+1)))))))))))) (none)) (some true)
def iN.l3(N:Nat):Nat→iN.cB
 |0,_,_,_,_,_=>none
 |n+1,x0,x3,x6,x7,x8=>iN.ji N (iN.l3 N n) x0 x3 x6 x7 x8
def iN.b(N:Nat)(jM:iN.cB)(a0:ay):Option (Bool):=
 jM a0 (List.replicate 13 false) a0 (List.length a0:Int) (0:Int)
def iN(N:Nat)(a0:ay):Option (Bool):=iN.b N (iN.l3 N N) a0
abbrev uV.bk:=Int→ax→Int→Int→Option (Int)
def uV.cY(N:Nat)(bA:uV.bk)(x1:Int)(aQ:ax)(aF:Int)(aN:Int):Option (Int):=
 cond (aL aN aF) (cond (aM aN (List.length aQ)) (cond (aA ((List.getD aQ aN.toNat bR).1) x1) (some (((List.getD aQ aN.toNat bR).2).1)) (bA x1 aQ aF (W .i64 (aN+1)))) (none)) (some (0:Int))
def uV.l4(N:Nat):Nat→uV.bk
 |0,_,_,_,_=>none
 |n+1,x1,aQ,aF,aN=>uV.cY N (uV.l4 N n) x1 aQ aF aN
def uV.b(N:Nat)(dG:uV.bk)(a0:ax)(a1:Int):Option (Int):=
 (kV N a0).bind fun r1=>cond (!r1) (some (0:Int)) (dG a1 a0 (List.length a0:Int) (0:Int))
def uV(N:Nat)(a0:ax)(a1:Int):Option (Int):=uV.b N (uV.l4 N N) a0 a1
abbrev xH.bk:=ax→ay→Int→Int→Option (Bool)
def xH.cY(N:Nat)(bA:xH.bk)(x0:ax)(bz:ay)(cv:Int)(cw:Int):Option (Bool):=
 cond (aL cw cv) (cond (aM cw (List.length bz)) ((uV N x0 (((List.getD bz cw.toNat aC).2).1)).bind fun r4=>cond (aA r4 0) (some false) (bA x0 bz cv (W .i64 (cw+1)))) (none)) (some true)
def xH.l4(N:Nat):Nat→xH.bk
 |0,_,_,_,_=>none
 |n+1,x0,bz,cv,cw=>xH.cY N (xH.l4 N n) x0 bz cv cw
def xH.b(N:Nat)(dG:xH.bk)(a0:ax)(a1:ay):Option (Bool):=
 (kV N a0).bind fun r1=>cond (!r1) (some false) ((iN N a1).bind fun r2=>cond (!r2) (some false) (dG a0 a1 (List.length a1:Int) (0:Int)))
def xH(N:Nat)(a0:ax)(a1:ay):Option (Bool):=xH.b N (xH.l4 N N) a0 a1
def Iw(N:Nat)(a0:Int)(a1:Int):Option (Bool):=
 cond (aA a0 1) (some (aA a1 0)) (cond (aA a0 2) (some (aA a1 0)) (cond (aA a0 3) (some (aA a1 0)) (cond (aA a0 4) (some (aA a1 0)) (cond (aA a0 5) (cond (bX 1 a1) (some (bX a1 24)) (some false)) (cond (aA a0 6) (cond (bX 1 a1) (some (bX a1 12)) (some false)) (cond (aA a0 7) (cond (bX 1 a1) (some (bX a1 12)) (some false)) (some false)))))))
def Iy(N:Nat)(a0:Int)(a1:Int)(a2:cE):Option (Int):=
 cond (!aA a0 a2.1) (some (W .i64 (a0-a2.1))) (some (W .i64 (a1-a2.2.1)))
abbrev vS.bQ:=aj→aj→Int→Int→Option (Bool)
def vS.dP(N:Nat)(cJ:vS.bQ)(x0:aj)(x5:aj)(x6:Int)(x7:Int):Option (Bool):=
 cond (aL x7 x6) (cond (aM x7 (List.length x5)) ((Iw N ((List.getD x5 x7.toNat aZ).1) (((List.getD x5 x7.toNat aZ).2).1)).bind fun r2=>cond (!r2) (some false) (cond (aA ((((List.getD x5 x7.toNat aZ).2).2).1) (0:Int)) (some false) (cond (aL 0 x7) (let v3:Int:=W .i64 (x7-1);cond (aM v3 (List.length x0)) ((Iy N ((List.getD x5 x7.toNat aZ).1) (((List.getD x5 x7.toNat aZ).2).1) (List.getD x0 v3.toNat aZ)).bind fun r4=>cond (bX r4 0) (some false) (cJ x0 x5 x6 (W .i64 (x7+1)))) (none)) (cJ x0 x5 x6 (W .i64 (x7+1)))))) (none)) (some true)
def vS.l2(N:Nat):Nat→vS.bQ
 |0,_,_,_,_=>none
 |n+1,x0,x5,x6,x7=>vS.dP N (vS.l2 N n) x0 x5 x6 x7
def vS.b(N:Nat)(eW:vS.bQ)(a0:aj):Option (Bool):=
 eW a0 a0 (List.length a0:Int) (0:Int)
def vS(N:Nat)(a0:aj):Option (Bool):=vS.b N (vS.l2 N N) a0
def Ot(N:Nat)(a0:Int):Option de:=
 cond (aL 63 0) (none) (some ((shr .i64 a0 63),((W .u64 a0),())))
abbrev jA.cB:=de→Int→Int→Int→hZ→Int→Int→Option (de×(Bool))
def jA.ji(N:Nat)(ck:jA.cB)(x2:de)(x4:Int)(x5:Int)(x6:Int)(aQ:hZ)(aF:Int)(aN:Int):Option (de×(Bool)):=
 cond (aL aN aF) (cond (aM aN (List.length aQ)) ((sU N x6 (((List.getD aQ aN.toNat bR).2).1) (0:Int)).bind fun r2=>(sU N x5 (W .u64 ((List.getD aQ aN.toNat bR).1)) r2.2).bind fun r4=>cond (aL 63 0) (none) (ck x2 (W .i64 ((W .i64 (x4+(shr .i64 ((List.getD aQ aN.toNat bR).1) (63:Int))))+(W .i64 r4.2))) r4.1 r2.1 aQ aF (W .i64 (aN+1)))) (none)) (cond (aL 63 0) (none) (cond (!aA x4 (shr .i64 (W .i64 x5) 63)) (some (bR,false)) (some (((W .i64 x5),(x6,())),true))))
def jA.l3(N:Nat):Nat→jA.cB
 |0,_,_,_,_,_,_,_=>none
 |n+1,x2,x4,x5,x6,aQ,aF,aN=>jA.ji N (jA.l3 N n) x2 x4 x5 x6 aQ aF aN
def jA.b(N:Nat)(jM:jA.cB)(a0:hZ):Option (de×(Bool)):=
 jM bR (0:Int) (0:Int) (0:Int) a0 (List.length a0:Int) (0:Int)
def jA(N:Nat)(a0:hZ):Option (de×(Bool)):=jA.b N (jA.l3 N N) a0
abbrev wZ.bm:=de→hZ→aj→Int→Int→Option de
def wZ.dr(N:Nat)(bh:wZ.bm)(x2:de)(x3:hZ)(aN:aj)(bb:Int)(bs:Int):Option de:=
 cond (aL bs bb) (cond (aM bs (List.length aN)) ((Ot N ((((List.getD aN bs.toNat aZ).2).2).1)).bind fun r3=>cond (small (List.length x3+List.length ([r3]))) (bh x2 (x3++([r3])) aN bb (W .i64 (bs+1))) (none)) (none)) ((jA N x3).bind fun r6=>some r6.1)
def wZ.l5(N:Nat):Nat→wZ.bm
 |0,_,_,_,_,_=>none
 |n+1,x2,x3,aN,bb,bs=>wZ.dr N (wZ.l5 N n) x2 x3 aN bb bs
def wZ.b(N:Nat)(dT:wZ.bm)(a0:aj):Option de:=
 (vS N a0).bind fun r1=>cond (!r1) (some bR) (dT bR ([]) a0 (List.length a0:Int) (0:Int))
def wZ(N:Nat)(a0:aj):Option de:=wZ.b N (wZ.l5 N N) a0
def R5(N:Nat)(a0:de)(a1:de):Option (Int):=
 cond (aL a0.1 a1.1) (some (-1:Int)) (cond (aA a0.1 a1.1) (cond (aL a0.2.1 a1.2.1) (some (-1:Int)) (cond (qQ (.pair (.int .i64) (.pair (.int .u64) .unit)) a0 a1) (some (0:Int)) (some (1:Int)))) (cond (qQ (.pair (.int .i64) (.pair (.int .u64) .unit)) a0 a1) (some (0:Int)) (some (1:Int))))
def Zo(N:Nat)(a0:de):Option (Int):=
 (R5 N a0 bR).bind fun r1=>some r1
def Ov(N:Nat)(a0:Int)(a1:Int):Option (Bool):=
 cond (bX 0 a0) (cond (bX a0 24) (cond (bX 0 a1) (some (aL a1 6)) (some false)) (some false)) (some false)
def IA(N:Nat)(a0:Int):Option (Bool):=
 some (!aA a0 (-9223372036854775808))
def LF(N:Nat)(a0:Int)(a1:Int)(a2:cE):Option (Int):=
 cond (!aA a0 a2.1) (some (W .i64 (a0-a2.1))) (some (W .i64 (a1-a2.2.1)))
abbrev ki.bQ:=aj→aj→Int→Int→Option (Bool)
def ki.dP(N:Nat)(cJ:ki.bQ)(x0:aj)(x5:aj)(x6:Int)(x7:Int):Option (Bool):=
 cond (aL x7 x6) (cond (aM x7 (List.length x5)) ((Ov N ((List.getD x5 x7.toNat aZ).1) (((List.getD x5 x7.toNat aZ).2).1)).bind fun r2=>cond (!r2) (some false) (cond (aA ((((List.getD x5 x7.toNat aZ).2).2).1) (0:Int)) (some false) ((IA N ((((List.getD x5 x7.toNat aZ).2).2).1)).bind fun r3=>cond (!r3) (some false) (cond (aL 0 x7) (let v4:Int:=W .i64 (x7-1);cond (aM v4 (List.length x0)) ((LF N ((List.getD x5 x7.toNat aZ).1) (((List.getD x5 x7.toNat aZ).2).1) (List.getD x0 v4.toNat aZ)).bind fun r5=>cond (bX r5 0) (some false) (cJ x0 x5 x6 (W .i64 (x7+1)))) (none)) (cJ x0 x5 x6 (W .i64 (x7+1))))))) (none)) (some true)
def ki.l2(N:Nat):Nat→ki.bQ
 |0,_,_,_,_=>none
 |n+1,x0,x5,x6,x7=>ki.dP N (ki.l2 N n) x0 x5 x6 x7
def ki.b(N:Nat)(eW:ki.bQ)(a0:aj):Option (Bool):=
 eW a0 a0 (List.length a0:Int) (0:Int)
def ki(N:Nat)(a0:aj):Option (Bool):=ki.b N (ki.l2 N N) a0
abbrev kZ.bm:=Int→de→hZ→aj→Int→Int→Option de
def kZ.dr(N:Nat)(bh:kZ.bm)(x1:Int)(x4:de)(x5:hZ)(bs:aj)(bz:Int)(cv:Int):Option de:=
 cond (aL cv bz) (cond (aM cv (List.length bs)) (cond (aA (((List.getD bs cv.toNat aZ).2).1) x1) ((Ot N ((((List.getD bs cv.toNat aZ).2).2).1)).bind fun r3=>cond (small (List.length x5+List.length ([r3]))) (bh x1 x4 (x5++([r3])) bs bz (W .i64 (cv+1))) (none)) (bh x1 x4 x5 bs bz (W .i64 (cv+1)))) (none)) ((jA N x5).bind fun r7=>some r7.1)
def kZ.l5(N:Nat):Nat→kZ.bm
 |0,_,_,_,_,_,_=>none
 |n+1,x1,x4,x5,bs,bz,cv=>kZ.dr N (kZ.l5 N n) x1 x4 x5 bs bz cv
def kZ.b(N:Nat)(dT:kZ.bm)(a0:aj)(a1:Int):Option de:=
 (ki N a0).bind fun r1=>cond (!r1) (some bR) (dT a1 bR ([]) a0 (List.length a0:Int) (0:Int))
def kZ(N:Nat)(a0:aj)(a1:Int):Option de:=kZ.b N (kZ.l5 N N) a0 a1
abbrev xI.bQ:=aj→Int→Option (Bool)
def xI.dP(N:Nat)(cJ:xI.bQ)(x0:aj)(x4:Int):Option (Bool):=
 cond (aL x4 6) ((kZ N x0 x4).bind fun r2=>(Zo N r2).bind fun r3=>cond (!aA r3 0) (some false) (cJ x0 (W .i64 (x4+1)))) ((ki N x0).bind fun r5=>some r5)
def xI.l2(N:Nat):Nat→xI.bQ
 |0,_,_=>none
 |n+1,x0,x4=>xI.dP N (xI.l2 N n) x0 x4
def xI.b(N:Nat)(eW:xI.bQ)(a0:aj):Option (Bool):=
 eW a0 (0:Int)
def xI(N:Nat)(a0:aj):Option (Bool):=xI.b N (xI.l2 N N) a0
def R1(N:Nat)(a0:eG):Option (Bool):=
 cond (bX 1 a0.1) (cond (bX a0.1 1099511627776) (cond (bX 1 a0.2.1) (cond (bX a0.2.1 24) (cond (bX 0 a0.2.2.1) (cond (aL a0.2.2.1 6) (cond (aA a0.2.2.2.1 1) (cond (bX 1 a0.2.2.2.2.1) (cond (bX a0.2.2.2.2.1 1000000000) (cond (bX 1 a0.2.2.2.2.2.1) (some (bX a0.2.2.2.2.2.1 1000000000000)) (some false)) (some false)) (some false)) (cond (aA a0.2.2.2.1 2) (cond (bX 1 a0.2.2.2.2.1) (cond (bX a0.2.2.2.2.1 1000000000) (cond (bX 1 a0.2.2.2.2.2.1) (some (bX a0.2.2.2.2.2.1 1000000000000)) (some false)) (some false)) (some false)) (some false))) (some false)) (some false)) (some false)) (some false)) (some false)) (some false)
abbrev xG.bQ:=a6→a6→Int→Int→Option (Bool)
def xG.dP(N:Nat)(cJ:xG.bQ)(x0:a6)(x5:a6)(x6:Int)(x7:Int):Option (Bool):=
 cond (aL x7 x6) (cond (aM x7 (List.length x5)) ((R1 N (List.getD x5 x7.toNat eD)).bind fun r2=>cond (!r2) (some false) (cond (aL 0 x7) (let v3:Int:=W .i64 (x7-1);cond (aM v3 (List.length x0)) (cond (bX ((List.getD x5 x7.toNat eD).1) ((List.getD x0 v3.toNat eD).1)) (some false) (cJ x0 x5 x6 (W .i64 (x7+1)))) (none)) (cJ x0 x5 x6 (W .i64 (x7+1))))) (none)) (some (bX (List.length x0:Int) 32))
def xG.l2(N:Nat):Nat→xG.bQ
 |0,_,_,_,_=>none
 |n+1,x0,x5,x6,x7=>xG.dP N (xG.l2 N n) x0 x5 x6 x7
def xG.b(N:Nat)(eW:xG.bQ)(a0:a6):Option (Bool):=
 eW a0 a0 (List.length a0:Int) (0:Int)
def xG(N:Nat)(a0:a6):Option (Bool):=xG.b N (xG.l2 N N) a0
abbrev kX.bk:=Int→bn→ay→Int→Int→Option (bn×(Bool))
def kX.cY(N:Nat)(bA:kX.bk)(x1:Int)(x4:bn)(aN:ay)(bb:Int)(bs:Int):Option (bn×(Bool)):=
 cond (aL bs bb) (cond (aM bs (List.length aN)) (cond (aA ((List.getD aN bs.toNat aC).1) x1) (some (List.getD aN bs.toNat aC,true)) (bA x1 x4 aN bb (W .i64 (bs+1)))) (none)) (some (aC,false))
def kX.l4(N:Nat):Nat→kX.bk
 |0,_,_,_,_,_=>none
 |n+1,x1,x4,aN,bb,bs=>kX.cY N (kX.l4 N n) x1 x4 aN bb bs
def kX.b(N:Nat)(dG:kX.bk)(a0:ay)(a1:Int):Option (bn×(Bool)):=
 (iN N a0).bind fun r1=>cond (!r1) (some (aC,false)) (dG a1 aC a0 (List.length a0:Int) (0:Int))
def kX(N:Nat)(a0:ay)(a1:Int):Option (bn×(Bool)):=kX.b N (kX.l4 N N) a0 a1
def F82(N:Nat)(a0:ag)(a1:Int):Option (Bool):=
 (kX N a0.2.1 a1).bind fun r1=>some r1.2
def F85(N:Nat)(a0:Int):Option (Bool):=
 cond (bX 1 a0) (some (bX a0 1000000000000)) (some false)
def F84(N:Nat)(a0:Int):Option (Bool):=
 (F85 N a0).bind fun r1=>some (!r1)
abbrev nK.bQ:=(List (Int))→Unit→Int→Int→Option (Int)
def nK.dP(N:Nat)(cJ:nK.bQ)(x0:List (Int))(x1:Unit)(x7:Int)(x8:Int):Option (Int):=
 cond (aL x8 x7) (cond (aM x8 (List.length x0)) ((F84 N (List.getD x0 x8.toNat (0:Int))).bind fun r2=>cond (r2) (some x8) (cJ x0 () x7 (W .i64 (x8+1)))) (none)) (some (-1:Int))
def nK.l2(N:Nat):Nat→nK.bQ
 |0,_,_,_,_=>none
 |n+1,x0,x1,x7,x8=>nK.dP N (nK.l2 N n) x0 x1 x7 x8
def nK.b(N:Nat)(eW:nK.bQ)(a0:List (Int))(a1:Unit):Option (Int):=
 eW a0 () (List.length a0:Int) (0:Int)
def nK(N:Nat)(a0:List (Int))(a1:Unit):Option (Int):=nK.b N (nK.l2 N N) a0 a1
def F83(N:Nat)(a0:List (Int))(a1:Unit):Option (Bool):=
 (nK N a0 ()).bind fun r1=>some (bX 0 r1)
abbrev iq.nA:=aa→ag→a6→Int→Int→Option (Bool)
abbrev iq.je:=aa→ag→aj→Int→Int→Option (Bool)
abbrev iq.bk:=aa→ag→aj→Int→Int→Option (Bool)
def iq.rG(N:Nat)(Ai:iq.nA)(x2:aa)(x3:ag)(nP:a6)(Tk:Int)(Jm:Int):Option (Bool):=
 cond (aL Jm Tk) (cond (aM Jm (List.length nP)) ((F82 N x3 (((List.getD nP Jm.toNat eD).2).1)).bind fun xP=>cond (!xP) (some false) (cond (bX (List.length x2.1:Int) ((((List.getD nP Jm.toNat eD).2).2).1)) (some false) (Ai x2 x3 nP Tk (W .i64 (Jm+1))))) (none)) ((F83 N x3.2.2.2.2.1 ()).bind fun xQ=>some (!xQ))
def iq.sM(N:Nat):Nat→iq.nA
 |0,_,_,_,_,_=>none
 |n+1,x2,x3,nP,Tk,Jm=>iq.rG N (iq.sM N n) x2 x3 nP Tk Jm
def iq.rF(N:Nat)(Aj:iq.nA)(jY:iq.je)(x2:aa)(x3:ag)(Tl:aj)(x84:Int)(QY:Int):Option (Bool):=
 cond (aL QY x84) (cond (aM QY (List.length Tl)) (cond (!aA ((List.getD Tl QY.toNat aZ).1) (0:Int)) ((F82 N x3 ((List.getD Tl QY.toNat aZ).1)).bind fun tb=>cond (!tb) (some false) (cond (bX (List.length x2.1:Int) (((List.getD Tl QY.toNat aZ).2).1)) (some false) (jY x2 x3 Tl x84 (W .i64 (QY+1))))) (cond (bX (List.length x2.1:Int) (((List.getD Tl QY.toNat aZ).2).1)) (some false) (jY x2 x3 Tl x84 (W .i64 (QY+1))))) (none)) (Aj x2 x3 x3.2.2.2.2.2.1 (List.length x3.2.2.2.2.2.1:Int) (0:Int))
def iq.sL(N:Nat):Nat→iq.je
 |0,_,_,_,_,_=>none
 |n+1,x2,x3,Tl,x84,QY=>iq.rF N (iq.sM N N) (iq.sL N n) x2 x3 Tl x84 QY
def iq.cY(N:Nat)(Ak:iq.je)(bA:iq.bk)(x2:aa)(x3:ag)(MO:aj)(Z1:Int)(KL:Int):Option (Bool):=
 cond (aL KL Z1) (cond (aM KL (List.length MO)) (cond (aA ((List.getD MO KL.toNat aZ).1) (5:Int)) ((F82 N x3 (((List.getD MO KL.toNat aZ).2).1)).bind fun r9=>cond (!r9) (some false) (bA x2 x3 MO Z1 (W .i64 (KL+1)))) (cond (aA ((List.getD MO KL.toNat aZ).1) (6:Int)) ((uV N x3.1 (((List.getD MO KL.toNat aZ).2).1)).bind fun lW=>cond (aA lW 0) (some false) (bA x2 x3 MO Z1 (W .i64 (KL+1)))) (cond (aA ((List.getD MO KL.toNat aZ).1) (7:Int)) ((uV N x3.1 (((List.getD MO KL.toNat aZ).2).1)).bind fun lD=>cond (aA lD 0) (some false) (bA x2 x3 MO Z1 (W .i64 (KL+1)))) (bA x2 x3 MO Z1 (W .i64 (KL+1)))))) (none)) (Ak x2 x3 x3.2.2.2.1 (List.length x3.2.2.2.1:Int) (0:Int))
def iq.l4(N:Nat):Nat→iq.bk
 |0,_,_,_,_,_=>none
 |n+1,x2,x3,MO,Z1,KL=>iq.cY N (iq.sL N N) (iq.l4 N n) x2 x3 MO Z1 KL
def iq.b(N:Nat)(dG:iq.bk)(a0:aa)(a1:ag):Option (Bool):=
 (vQ N a0).bind fun r1=>cond (!r1) (some false) ((xH N a1.1 a1.2.1).bind fun r2=>cond (!r2) (some false) ((vS N a1.2.2.1).bind fun r3=>cond (!r3) (some false) ((wZ N a1.2.2.1).bind fun r4=>(Zo N r4).bind fun r5=>cond (!aA r5 0) (some false) ((xI N a1.2.2.2.1).bind fun r6=>cond (!r6) (some false) ((xG N a1.2.2.2.2.2.1).bind fun r7=>cond (!r7) (some false) (cond (!aA (List.length a1.2.2.2.2.1:Int) (List.length a0.1:Int)) (some false) (dG a0 a1 a1.2.2.1 (List.length a1.2.2.1:Int) (0:Int))))))))
def iq(N:Nat)(a0:aa)(a1:ag):Option (Bool):=iq.b N (iq.l4 N N) a0 a1
abbrev lj.bQ:=ax→aa→ax→Int→Int→Option (Bool)
def lj.dP(N:Nat)(cJ:lj.bQ)(x1:ax)(x2:aa)(x7:ax)(x8:Int)(x9:Int):Option (Bool):=
 cond (aL x9 x8) (cond (aM x9 (List.length x7)) (cond (aL ((List.getD x7 x9.toNat bR).1) (0:Int)) (some false) (cond (bX (List.length x2.1:Int) ((List.getD x7 x9.toNat bR).1)) (some false) (cond (aA (((List.getD x7 x9.toNat bR).2).1) (0:Int)) (some false) ((IA N (((List.getD x7 x9.toNat bR).2).1)).bind fun r2=>cond (!r2) (some false) (cond (aL 0 x9) (let v3:Int:=W .i64 (x9-1);cond (aM v3 (List.length x1)) (cond (bX ((List.getD x7 x9.toNat bR).1) ((List.getD x1 v3.toNat bR).1)) (some false) (cJ x1 x2 x7 x8 (W .i64 (x9+1)))) (none)) (cJ x1 x2 x7 x8 (W .i64 (x9+1)))))))) (none)) ((vQ N x2).bind fun r6=>some r6)
def lj.l2(N:Nat):Nat→lj.bQ
 |0,_,_,_,_,_=>none
 |n+1,x1,x2,x7,x8,x9=>lj.dP N (lj.l2 N n) x1 x2 x7 x8 x9
def lj.b(N:Nat)(eW:lj.bQ)(a0:aa)(a1:ax):Option (Bool):=
 eW a1 a0 a1 (List.length a1:Int) (0:Int)
def lj(N:Nat)(a0:aa)(a1:ax):Option (Bool):=lj.b N (lj.l2 N N) a0 a1
abbrev qD.Jn:=az→aa→cq→az→Int→Int→Option (Bool)
abbrev qD.bk:=az→aa→az→Int→Int→Option (Bool)
def qD.IK(N:Nat)(bA:qD.bk)(x1:az)(x2:aa)(x6:cq)(bz:az)(cv:Int)(cw:Int):Option (Bool):=
 cond (aA x6.2.2.2.1 1) (cond (!aA x6.2.2.2.2.1 0) (some false) (cond (!aA x6.2.2.2.2.2.1 0) (some false) (bA x1 x2 bz cv (W .i64 (cw+1))))) (cond (aA x6.2.2.2.1 3) (cond (!aA x6.2.2.2.2.1 0) (some false) (cond (!aA x6.2.2.2.2.2.1 0) (some false) (bA x1 x2 bz cv (W .i64 (cw+1))))) (cond (aA x6.2.2.2.1 2) (cond (aL x6.2.2.2.2.1 1) (some false) (cond (aL 12 x6.2.2.2.2.1) (some false) (cond (aL x6.2.2.2.2.2.1 (-1152921504606846976)) (some false) (cond (aL 1152921504606846976 x6.2.2.2.2.2.1) (some false) (bA x1 x2 bz cv (W .i64 (cw+1))))))) (some false)))
def qD.j8(N:Nat)(bA:qD.bk)(x1:az)(x2:aa)(x6:cq)(bz:az)(cv:Int)(cw:Int):Option (Bool):=qD.IK N bA x1 x2 x6 bz cv cw
def qD.cY(N:Nat)(Al:qD.Jn)(bA:qD.bk)(x1:az)(x2:aa)(bz:az)(cv:Int)(cw:Int):Option (Bool):=
 cond (aL cw cv) (cond (aM cw (List.length bz)) (cond (aL ((List.getD bz cw.toNat ((0:Int),(aS,aC))).1) (1:Int)) (some false) (cond (aL 1099511627776 ((List.getD bz cw.toNat ((0:Int),(aS,aC))).1)) (some false) (cond (aL 0 cw) (let v3:Int:=W .i64 (cw-1);cond (aM v3 (List.length x1)) (cond (bX ((List.getD bz cw.toNat ((0:Int),(aS,aC))).1) ((List.getD x1 v3.toNat ((0:Int),(aS,aC))).1)) (some false) (cond (aA (List.length (((List.getD bz cw.toNat ((0:Int),(aS,aC))).2).1):Int) (0:Int)) (some false) ((lj N x2 (((List.getD bz cw.toNat ((0:Int),(aS,aC))).2).1)).bind fun r4=>cond (!r4) (some false) (cond (aL 0 ((((List.getD bz cw.toNat ((0:Int),(aS,aC))).2).2).1)) (some false) (Al x1 x2 (List.getD bz cw.toNat ((0:Int),(aS,aC))) bz cv cw))))) (none)) (cond (aA (List.length (((List.getD bz cw.toNat ((0:Int),(aS,aC))).2).1):Int) (0:Int)) (some false) ((lj N x2 (((List.getD bz cw.toNat ((0:Int),(aS,aC))).2).1)).bind fun r9=>cond (!r9) (some false) (cond (aL 0 ((((List.getD bz cw.toNat ((0:Int),(aS,aC))).2).2).1)) (some false) (Al x1 x2 (List.getD bz cw.toNat ((0:Int),(aS,aC))) bz cv cw))))))) (none)) (some true)
def qD.l4(N:Nat):Nat→qD.bk
 |0,_,_,_,_,_=>none
 |n+1,x1,x2,bz,cv,cw=>qD.cY N (qD.j8 N (qD.l4 N n)) (qD.l4 N n) x1 x2 bz cv cw
def qD.b(N:Nat)(dG:qD.bk)(a0:aa)(a1:az):Option (Bool):=
 (vQ N a0).bind fun r1=>cond (!r1) (some false) (cond (aL 12 (List.length a1:Int)) (some false) (dG a1 a0 a1 (List.length a1:Int) (0:Int)))
def qD(N:Nat)(a0:aa)(a1:az):Option (Bool):=qD.b N (qD.l4 N N) a0 a1
abbrev xK.cB:=az→Int→Int→Option az
def xK.ji(N:Nat)(ck:xK.cB)(x3:az)(x8:Int)(x9:Int):Option az:=
 cond (aL x9 x8) (cond (aM x9 (List.length x3)) ((iI N (((List.getD x3 x9.toNat ((0:Int),(aS,aC))).2).1)).bind fun r3=>cond (aM x9 (List.length x3)) (ck (List.set x3 x9.toNat ((List.getD x3 x9.toNat ((0:Int),(aS,aC))).1,(r3,((List.getD x3 x9.toNat ((0:Int),(aS,aC))).2).2))) x8 (W .i64 (x9+1))) (none)) (none)) (some x3)
def xK.l3(N:Nat):Nat→xK.cB
 |0,_,_,_=>none
 |n+1,x3,x8,x9=>xK.ji N (xK.l3 N n) x3 x8 x9
def xK.b(N:Nat)(jM:xK.cB)(a0:az):Option az:=
 (iI N a0).bind fun r1=>jM r1 (List.length r1:Int) (0:Int)
def xK(N:Nat)(a0:az):Option az:=xK.b N (xK.l3 N N) a0
abbrev wY.bk:=Int→ay→Int→Int→Option (Int)
def wY.cY(N:Nat)(bA:wY.bk)(x1:Int)(aQ:ay)(aF:Int)(aN:Int):Option (Int):=
 cond (aL aN aF) (cond (aM aN (List.length aQ)) (cond (aA (((List.getD aQ aN.toNat aC).2).1) x1) (cond (aA ((((List.getD aQ aN.toNat aC).2).2).1) (1:Int)) (some ((List.getD aQ aN.toNat aC).1)) (bA x1 aQ aF (W .i64 (aN+1)))) (bA x1 aQ aF (W .i64 (aN+1)))) (none)) (some (0:Int))
def wY.l4(N:Nat):Nat→wY.bk
 |0,_,_,_,_=>none
 |n+1,x1,aQ,aF,aN=>wY.cY N (wY.l4 N n) x1 aQ aF aN
def wY.b(N:Nat)(dG:wY.bk)(a0:ay)(a1:Int):Option (Int):=
 (iN N a0).bind fun r1=>cond (!r1) (some (0:Int)) (dG a1 a0 (List.length a0:Int) (0:Int))
def wY(N:Nat)(a0:ay)(a1:Int):Option (Int):=wY.b N (wY.l4 N N) a0 a1
def Sj(N:Nat)(a0:ag):Option ag:=
 (iI N a0.1).bind fun r1=>(iI N a0.2.1).bind fun r2=>(iI N a0.2.2.1).bind fun r3=>(iI N a0.2.2.2.1).bind fun r4=>(iI N a0.2.2.2.2.1).bind fun r5=>(iI N a0.2.2.2.2.2.1).bind fun r6=>some (r1,(r2,(r3,(r4,(r5,(r6,()))))))
abbrev eo.eX:=aj→Int→hZ→Int→aj→Int→Int→Option (Bool)
abbrev eo.bQ:=aj→Int→Option (Bool)
def eo.oX(N:Nat)(cJ:eo.bQ)(eS:eo.eX)(x0:aj)(x3:Int)(x4:hZ)(x9:Int)(aN:aj)(bb:Int)(bs:Int):Option (Bool):=
 cond (aL bs bb) (cond (aM bs (List.length aN)) (cond (aA (((List.getD aN bs.toNat aZ).2).1) x3) ((Ot N ((((List.getD aN bs.toNat aZ).2).2).1)).bind fun r3=>cond (small (List.length x4+List.length ([r3]))) (eS x0 x3 (x4++([r3])) x9 aN bb (W .i64 (bs+1))) (none)) (eS x0 x3 x4 x9 aN bb (W .i64 (bs+1)))) (none)) ((jA N x4).bind fun r7=>cond (!r7.2) (some false) ((Zo N r7.1).bind fun r8=>cond (!aA r8 0) (some false) (cJ x0 (W .i64 (x9+1)))))
def eo.l6(N:Nat)(cJ:eo.bQ):Nat→eo.eX
 |0,_,_,_,_,_,_,_=>none
 |n+1,x0,x3,x4,x9,aN,bb,bs=>eo.oX N cJ (eo.l6 N cJ n) x0 x3 x4 x9 aN bb bs
def eo.dP(N:Nat)(qq:eo.eX)(cJ:eo.bQ)(x0:aj)(x9:Int):Option (Bool):=
 cond (aL x9 6) (qq x0 x9 ([]) x9 x0 (List.length x0:Int) (0:Int)) (some true)
def eo.l2(N:Nat):Nat→eo.bQ
 |0,_,_=>none
 |n+1,x0,x9=>eo.dP N (eo.l6 N (eo.l2 N n) N) (eo.l2 N n) x0 x9
def eo.b(N:Nat)(eW:eo.bQ)(a0:aj):Option (Bool):=
 eW a0 (0:Int)
def eo(N:Nat)(a0:aj):Option (Bool):=eo.b N (eo.l2 N N) a0
def It(N:Nat)(a0:de):Option ((Int)×(Bool)):=
 cond (aL 63 0) (none) (cond (!aA a0.1 (shr .i64 (W .i64 a0.2.1) 63)) (some ((0:Int),false)) (some ((W .i64 a0.2.1),true)))
def Sd(N:Nat)(a0:aj):Option aj:=
 cond (fM 0 (List.length a0:Int) (List.length a0:Int) (List.length a0:Int)) (some (List.drop (0:Int).toNat (List.take (List.length a0:Int).toNat a0))) (none)
abbrev bu.afn:=aj→aj→cE→Int→aj→Int→Int→Option (aj×(Int))
abbrev bu.je:=aj→aj→cE→Int→aj→Int→Int→Option (aj×(Int))
abbrev bu.Qc:=aj→aj→cE→hZ→aj→Int→Int→aj→Int→Int→Option (aj×(Int))
abbrev bu.qC:=aj→aj→aj→Int→Int→Option (aj×(Int))
abbrev bu.fb:=aj→aj→aj→Int→Int→Option (aj×(Int))
abbrev bu.bk:=aj→aj→aj→Int→Int→Option (aj×(Int))
def bu.Zs(N:Nat)(gg:bu.fb)(x1:aj)(x8:aj)(aQ:cE)(aF:Int)(Gj:aj)(HV:Int)(D1:Int):Option (aj×(Int)):=
 cond (aA aF (List.length x8:Int)) ((lZ N x8 aF ([(aQ.1,(aQ.2.1,((0:Int),())))])).bind fun lD=>gg x1 lD Gj HV (W .i64 (D1+1))) (cond (aM aF (List.length x8)) ((LF N aQ.1 aQ.2.1 (List.getD x8 aF.toNat aZ)).bind fun tc=>cond (!aA tc 0) ((lZ N x8 aF ([(aQ.1,(aQ.2.1,((0:Int),())))])).bind fun wi=>gg x1 wi Gj HV (W .i64 (D1+1))) (gg x1 x8 Gj HV (W .i64 (D1+1)))) (none))
def bu.j18(N:Nat)(gg:bu.fb)(x1:aj)(x8:aj)(aQ:cE)(aF:Int)(Gj:aj)(HV:Int)(D1:Int):Option (aj×(Int)):=bu.Zs N gg x1 x8 aQ aF Gj HV D1
def bu.rF(N:Nat)(XK:bu.afn)(gg:bu.fb)(jY:bu.je)(x1:aj)(x8:aj)(aQ:cE)(aF:Int)(Gj:aj)(HV:Int)(D1:Int):Option (aj×(Int)):=
 cond (aL aF (List.length x8:Int)) (cond (aM aF (List.length x8)) ((LF N aQ.1 aQ.2.1 (List.getD x8 aF.toNat aZ)).bind fun jL=>cond (aL 0 jL) (jY x1 x8 aQ (W .i64 (aF+1)) Gj HV D1) (XK x1 x8 aQ aF Gj HV D1)) (none)) (XK x1 x8 aQ aF Gj HV D1)
def bu.sL(N:Nat)(gg:bu.fb):Nat→bu.je
 |0,_,_,_,_,_,_,_=>none
 |n+1,x1,x8,aQ,aF,Gj,HV,D1=>bu.rF N (bu.j18 N gg) gg (bu.sL N gg n) x1 x8 aQ aF Gj HV D1
def bu.Se(N:Nat)(oE:bu.qC)(Qd:bu.Qc)(x1:aj)(aN:aj)(bs:cE)(bz:hZ)(vr:aj)(xR:Int)(nP:Int)(DE:aj)(MP:Int)(Bl:Int):Option (aj×(Int)):=
 cond (aL Bl MP) (cond (aM Bl (List.length DE)) (cond (aA ((List.getD DE Bl.toNat aZ).1) bs.1) (cond (aA (((List.getD DE Bl.toNat aZ).2).1) bs.2.1) ((Ot N ((((List.getD DE Bl.toNat aZ).2).2).1)).bind fun xQ=>cond (small (List.length bz+List.length ([xQ]))) (Qd x1 aN bs (bz++([xQ])) vr xR nP DE MP (W .i64 (Bl+1))) (none)) (Qd x1 aN bs bz vr xR nP DE MP (W .i64 (Bl+1)))) (Qd x1 aN bs bz vr xR nP DE MP (W .i64 (Bl+1)))) (none)) ((jA N bz).bind fun QZ=>(It N QZ.1).bind fun AH=>cond (!AH.2) (some (ba,(2:Int))) ((IA N AH.1).bind fun Gk=>cond (!Gk) (some (ba,(2:Int))) (cond (!aA AH.1 0) (cond (small (List.length aN+List.length ([(bs.1,(bs.2.1,(AH.1,())))]))) (oE x1 (aN++([(bs.1,(bs.2.1,(AH.1,())))])) vr xR (W .i64 (nP+1))) (none)) (oE x1 aN vr xR (W .i64 (nP+1))))))
def bu.Xu(N:Nat)(oE:bu.qC):Nat→bu.Qc
 |0,_,_,_,_,_,_,_,_,_,_=>none
 |n+1,x1,aN,bs,bz,vr,xR,nP,DE,MP,Bl=>bu.Se N oE (bu.Xu N oE n) x1 aN bs bz vr xR nP DE MP Bl
def bu.Ft(N:Nat)(afo:bu.Qc)(oE:bu.qC)(x1:aj)(aN:aj)(vr:aj)(xR:Int)(nP:Int):Option (aj×(Int)):=
 cond (aL nP xR) (cond (aM nP (List.length vr)) ((Ot N ((((List.getD vr nP.toNat aZ).2).2).1)).bind fun xP=>afo x1 aN (List.getD vr nP.toNat aZ) ([xP]) vr xR nP x1 (List.length x1:Int) (0:Int)) (none)) ((Sd N aN).bind fun MQ=>some (MQ,(0:Int)))
def bu.BS(N:Nat):Nat→bu.qC
 |0,_,_,_,_,_=>none
 |n+1,x1,aN,vr,xR,nP=>bu.Ft N (bu.Xu N (bu.BS N n) N) (bu.BS N n) x1 aN vr xR nP
def bu.mg(N:Nat)(Ak:bu.je)(Qe:bu.qC)(gg:bu.fb)(x1:aj)(x8:aj)(Gj:aj)(HV:Int)(D1:Int):Option (aj×(Int)):=
 cond (aL D1 HV) (cond (aM D1 (List.length Gj)) (Ak x1 x8 (List.getD Gj D1.toNat aZ) (0:Int) Gj HV D1) (none)) (cond (gm 0 (List.length x8:Int)) (Qe x1 (List.replicate (0:Int).toNat aZ) x8 (List.length x8:Int) (0:Int)) (none))
def bu.ot(N:Nat):Nat→bu.fb
 |0,_,_,_,_,_=>none
 |n+1,x1,x8,Gj,HV,D1=>bu.mg N (bu.sL N (bu.ot N n) N) (bu.BS N N) (bu.ot N n) x1 x8 Gj HV D1
def bu.cY(N:Nat)(rT:bu.fb)(bA:bu.bk)(x0:aj)(x1:aj)(Z2:aj)(x31:Int)(XL:Int):Option (aj×(Int)):=
 cond (aL XL x31) (cond (aM XL (List.length Z2)) ((Ov N ((List.getD Z2 XL.toNat aZ).1) (((List.getD Z2 XL.toNat aZ).2).1)).bind fun r3=>cond (!r3) (some (ba,(1:Int))) ((IA N ((((List.getD Z2 XL.toNat aZ).2).2).1)).bind fun r4=>cond (!r4) (some (ba,(1:Int))) (bA x0 x1 Z2 x31 (W .i64 (XL+1))))) (none)) ((eo N x1).bind fun r6=>cond (!r6) (some (ba,(1:Int))) ((iI N x0).bind fun r7=>rT x1 r7 x1 (List.length x1:Int) (0:Int)))
def bu.l4(N:Nat):Nat→bu.bk
 |0,_,_,_,_,_=>none
 |n+1,x0,x1,Z2,x31,XL=>bu.cY N (bu.ot N N) (bu.l4 N n) x0 x1 Z2 x31 XL
def bu.b(N:Nat)(dG:bu.bk)(a0:aj)(a1:aj):Option (aj×(Int)):=
 (ki N a0).bind fun r1=>cond (!r1) (some (ba,(1:Int))) (cond (aL 400 (List.length a1:Int)) (some (ba,(1:Int))) (dG a0 a1 a1 (List.length a1:Int) (0:Int)))
def bu(N:Nat)(a0:aj)(a1:aj):Option (aj×(Int)):=bu.b N (bu.l4 N N) a0 a1
def Zu(N:Nat)(a0:aj):Option aj:=
 cond (fM 0 (List.length a0:Int) (List.length a0:Int) (List.length a0:Int)) (some (List.drop (0:Int).toNat (List.take (List.length a0:Int).toNat a0))) (none)
abbrev bw.afp:=cm→aj→p7→Int→cm→Int→Int→Option (aj×(Int))
abbrev bw.lV:=cm→aj→p7→Int→cm→Int→Int→Option (aj×(Int))
abbrev bw.Am:=cm→aj→cE→hZ→aj→Int→Int→cm→Int→Int→Option (aj×(Int))
abbrev bw.BX:=cm→aj→aj→Int→Int→Option (aj×(Int))
abbrev bw.je:=cm→aj→cm→Int→Int→Option (aj×(Int))
abbrev bw.bm:=aj→cm→hZ→cm→Int→Int→Option (aj×(Int))
def bw.Zv(N:Nat)(jY:bw.je)(x1:cm)(aF:aj)(bb:p7)(bs:Int)(Gl:cm)(HW:Int)(D2:Int):Option (aj×(Int)):=
 cond (aA bs (List.length aF:Int)) ((lZ N aF bs ([(bb.1,(bb.2.1,((0:Int),())))])).bind fun tc=>jY x1 tc Gl HW (W .i64 (D2+1))) (cond (aM bs (List.length aF)) ((Iy N bb.1 bb.2.1 (List.getD aF bs.toNat aZ)).bind fun tb=>cond (!aA tb 0) ((lZ N aF bs ([(bb.1,(bb.2.1,((0:Int),())))])).bind fun ug=>jY x1 ug Gl HW (W .i64 (D2+1))) (jY x1 aF Gl HW (W .i64 (D2+1)))) (none))
def bw.j21(N:Nat)(jY:bw.je)(x1:cm)(aF:aj)(bb:p7)(bs:Int)(Gl:cm)(HW:Int)(D2:Int):Option (aj×(Int)):=bw.Zv N jY x1 aF bb bs Gl HW D2
def bw.zs(N:Nat)(XM:bw.afp)(jY:bw.je)(lX:bw.lV)(x1:cm)(aF:aj)(bb:p7)(bs:Int)(Gl:cm)(HW:Int)(D2:Int):Option (aj×(Int)):=
 cond (aL bs (List.length aF:Int)) (cond (aM bs (List.length aF)) ((Iy N bb.1 bb.2.1 (List.getD aF bs.toNat aZ)).bind fun mK=>cond (aL 0 mK) (lX x1 aF bb (W .i64 (bs+1)) Gl HW D2) (XM x1 aF bb bs Gl HW D2)) (none)) (XM x1 aF bb bs Gl HW D2)
def bw.AG(N:Nat)(jY:bw.je):Nat→bw.lV
 |0,_,_,_,_,_,_,_=>none
 |n+1,x1,aF,bb,bs,Gl,HW,D2=>bw.zs N (bw.j21 N jY) jY (bw.AG N jY n) x1 aF bb bs Gl HW D2
def bw.Fw(N:Nat)(Co:bw.BX)(xf:bw.Am)(x1:cm)(bz:aj)(cw:cE)(jm:hZ)(vt:aj)(xS:Int)(tV:Int)(Bm:cm)(MR:Int)(An:Int):Option (aj×(Int)):=
 cond (aL An MR) (cond (aM An (List.length Bm)) (cond (aA ((List.getD Bm An.toNat ((0:Int),((0:Int),(bR,())))).1) cw.1) (cond (aA (((List.getD Bm An.toNat ((0:Int),((0:Int),(bR,())))).2).1) cw.2.1) (cond (small (List.length jm+List.length ([(((List.getD Bm An.toNat ((0:Int),((0:Int),(bR,())))).2).2).1]))) (xf x1 bz cw (jm++([(((List.getD Bm An.toNat ((0:Int),((0:Int),(bR,())))).2).2).1])) vt xS tV Bm MR (W .i64 (An+1))) (none)) (xf x1 bz cw jm vt xS tV Bm MR (W .i64 (An+1)))) (xf x1 bz cw jm vt xS tV Bm MR (W .i64 (An+1)))) (none)) ((jA N jm).bind fun AH=>(It N AH.1).bind fun Gk=>cond (!AH.2) (some (ba,(2:Int))) (cond (!Gk.2) (some (ba,(2:Int))) (cond (!aA Gk.1 0) (cond (small (List.length bz+List.length ([(cw.1,(cw.2.1,(Gk.1,())))]))) (Co x1 (bz++([(cw.1,(cw.2.1,(Gk.1,())))])) vt xS (W .i64 (tV+1))) (none)) (Co x1 bz vt xS (W .i64 (tV+1))))))
def bw.IJ(N:Nat)(Co:bw.BX):Nat→bw.Am
 |0,_,_,_,_,_,_,_,_,_,_=>none
 |n+1,x1,bz,cw,jm,vt,xS,tV,Bm,MR,An=>bw.Fw N Co (bw.IJ N Co n) x1 bz cw jm vt xS tV Bm MR An
def bw.Si(N:Nat)(Qf:bw.Am)(Co:bw.BX)(x1:cm)(bz:aj)(vt:aj)(xS:Int)(tV:Int):Option (aj×(Int)):=
 cond (aL tV xS) (cond (aM tV (List.length vt)) ((Ot N ((((List.getD vt tV.toNat aZ).2).2).1)).bind fun xQ=>Qf x1 bz (List.getD vt tV.toNat aZ) ([xQ]) vt xS tV x1 (List.length x1:Int) (0:Int)) (none)) ((Zu N bz).bind fun MQ=>some (MQ,(0:Int)))
def bw.Sh(N:Nat):Nat→bw.BX
 |0,_,_,_,_,_=>none
 |n+1,x1,bz,vt,xS,tV=>bw.Si N (bw.IJ N (bw.Sh N n) N) (bw.Sh N n) x1 bz vt xS tV
def bw.rF(N:Nat)(Gm:bw.lV)(afq:bw.BX)(jY:bw.je)(x1:cm)(aF:aj)(Gl:cm)(HW:Int)(D2:Int):Option (aj×(Int)):=
 cond (aL D2 HW) (cond (aM D2 (List.length Gl)) (Gm x1 aF (List.getD Gl D2.toNat ((0:Int),((0:Int),(bR,())))) (0:Int) Gl HW D2) (none)) (cond (gm 0 (List.length aF:Int)) (afq x1 (List.replicate (0:Int).toNat aZ) aF (List.length aF:Int) (0:Int)) (none))
def bw.sL(N:Nat):Nat→bw.je
 |0,_,_,_,_,_=>none
 |n+1,x1,aF,Gl,HW,D2=>bw.rF N (bw.AG N (bw.sL N n) N) (bw.Sh N N) (bw.sL N n) x1 aF Gl HW D2
def bw.dr(N:Nat)(Ak:bw.je)(bh:bw.bm)(x0:aj)(x1:cm)(x6:hZ)(XN:cm)(x37:Int)(Tm:Int):Option (aj×(Int)):=
 cond (aL Tm x37) (cond (aM Tm (List.length XN)) ((Iw N ((List.getD XN Tm.toNat ((0:Int),((0:Int),(bR,())))).1) (((List.getD XN Tm.toNat ((0:Int),((0:Int),(bR,())))).2).1)).bind fun r4=>cond (!r4) (some (ba,(1:Int))) (cond (small (List.length x6+List.length ([(((List.getD XN Tm.toNat ((0:Int),((0:Int),(bR,())))).2).2).1]))) (bh x0 x1 (x6++([(((List.getD XN Tm.toNat ((0:Int),((0:Int),(bR,())))).2).2).1])) XN x37 (W .i64 (Tm+1))) (none))) (none)) ((jA N x6).bind fun r7=>cond (!r7.2) (some (ba,(1:Int))) ((Zo N r7.1).bind fun r8=>cond (!aA r8 0) (some (ba,(1:Int))) ((iI N x0).bind fun r9=>Ak x1 r9 x1 (List.length x1:Int) (0:Int))))
def bw.l5(N:Nat):Nat→bw.bm
 |0,_,_,_,_,_,_=>none
 |n+1,x0,x1,x6,XN,x37,Tm=>bw.dr N (bw.sL N N) (bw.l5 N n) x0 x1 x6 XN x37 Tm
def bw.b(N:Nat)(dT:bw.bm)(a0:aj)(a1:cm):Option (aj×(Int)):=
 (vS N a0).bind fun r1=>cond (!r1) (some (ba,(1:Int))) (cond (aL 400 (List.length a1:Int)) (some (ba,(1:Int))) (cond (gm 0 (List.length a1:Int)) (dT a0 a1 (List.replicate (0:Int).toNat bR) a1 (List.length a1:Int) (0:Int)) (none)))
def bw(N:Nat)(a0:aj)(a1:cm):Option (aj×(Int)):=bw.b N (bw.l5 N N) a0 a1
def F65(N:Nat)(a0:ag)(a1:aj)(a2:cm):Option (ag×(Int)):=
 (Sj N a0).bind fun r1=>(bu N a0.2.2.2.1 a1).bind fun r2=>cond (!aA r2.2 0) (some ((aS,(cj,(ba,(ba,(cI,(cL,())))))),r2.2)) ((bw N a0.2.2.1 a2).bind fun r3=>cond (!aA r3.2 0) (some ((aS,(cj,(ba,(ba,(cI,(cL,())))))),r3.2)) (some ((r1.1,(r1.2.1,(r3.1,(r2.1,r1.2.2.2.2)))),(0:Int))))
abbrev mh.nB:=ay→ag→ag→az→aj→cm→bn→Int→az→Int→Int→ax→Int→Int→Option (ag×az×(Int))
abbrev mh.cZ:=ay→ag→ag→az→aj→cm→az→Int→Int→Option (ag×az×(Int))
def mh.sO(N:Nat)(cK:mh.cZ)(vu:mh.nB)(x3:ay)(x5:ag)(x8:ag)(aF:az)(aN:aj)(bb:cm)(cv:bn)(jm:Int)(Jo:az)(Qg:Int)(oU:Int)(Qh:ax)(x98:Int)(Nc:Int):Option (ag×az×(Int)):=
 cond (aL Nc x98) (cond (aM Nc (List.length Qh)) (let KM:Int:=W .i64 (0-(((List.getD Qh Nc.toNat bR).2).1));cond (small (List.length aN+List.length ([((0:Int),((List.getD Qh Nc.toNat bR).1,(KM,()))),(jm,((List.getD Qh Nc.toNat bR).1,(((List.getD Qh Nc.toNat bR).2).1,())))]))) (vu x3 x5 x8 aF (aN++([((0:Int),((List.getD Qh Nc.toNat bR).1,(KM,()))),(jm,((List.getD Qh Nc.toNat bR).1,(((List.getD Qh Nc.toNat bR).2).1,())))])) bb cv jm Jo Qg oU Qh x98 (W .i64 (Nc+1))) (none)) (none)) ((Ot N (W .i64 (0-cv.2.2.2.1))).bind fun Cp=>(Ot N cv.2.2.2.1).bind fun xP=>cond (small (List.length bb+List.length ([((5:Int),(jm,(Cp,()))),((2:Int),((0:Int),(xP,())))]))) (cK x3 x5 x8 aF aN (bb++([((5:Int),(jm,(Cp,()))),((2:Int),((0:Int),(xP,())))])) Jo Qg (W .i64 (oU+1))) (none))
def mh.vi(N:Nat)(cK:mh.cZ):Nat→mh.nB
 |0,_,_,_,_,_,_,_,_,_,_,_,_,_,_=>none
 |n+1,x3,x5,x8,aF,aN,bb,cv,jm,Jo,Qg,oU,Qh,x98,Nc=>mh.sO N cK (mh.vi N cK n) x3 x5 x8 aF aN bb cv jm Jo Qg oU Qh x98 Nc
def mh.oe(N:Nat)(Ao:mh.nB)(cK:mh.cZ)(x3:ay)(x5:ag)(x8:ag)(aF:az)(aN:aj)(bb:cm)(Jo:az)(Qg:Int)(oU:Int):Option (ag×az×(Int)):=
 cond (aL oU Qg) (cond (aM oU (List.length Jo)) (cond (!aA (((((List.getD Jo oU.toNat ((0:Int),(aS,aC))).2).2).2).1) (1:Int)) (cK x3 x5 x8 aF aN bb Jo Qg (W .i64 (oU+1))) ((vg N x3 ((List.getD Jo oU.toNat ((0:Int),(aS,aC))).1)).bind fun r7=>cond (!r7.2) (cond (aM oU (List.length aF)) (cK x3 x5 x8 (List.set aF oU.toNat ((List.getD aF oU.toNat ((0:Int),(aS,aC))).1,(((List.getD aF oU.toNat ((0:Int),(aS,aC))).2).1,((((List.getD aF oU.toNat ((0:Int),(aS,aC))).2).2).1,((3:Int),((((List.getD aF oU.toNat ((0:Int),(aS,aC))).2).2).2).2))))) aN bb Jo Qg (W .i64 (oU+1))) (none)) ((wY N x5.2.1 r7.1.2.2.1).bind fun jL=>(uV N x5.1 r7.1.2.2.1).bind fun lW=>cond (aA lW 0) (some ((aS,(cj,(ba,(ba,(cI,(cL,())))))),[],(3:Int))) (cond (aA jL 0) (some ((aS,(cj,(ba,(ba,(cI,(cL,())))))),[],(3:Int))) (cond (aM oU (List.length aF)) (let MS:List ((Int)×((List ((Int)×((Int)×(Unit))))×((Int)×((Int)×((Int)×((Int)×(Unit))))))):=List.set aF oU.toNat ((List.getD aF oU.toNat ((0:Int),(aS,aC))).1,(((List.getD aF oU.toNat ((0:Int),(aS,aC))).2).1,((((List.getD aF oU.toNat ((0:Int),(aS,aC))).2).2).1,((2:Int),((((List.getD aF oU.toNat ((0:Int),(aS,aC))).2).2).2).2))));cond (aM oU (List.length MS)) (let Gn:List ((Int)×((List ((Int)×((Int)×(Unit))))×((Int)×((Int)×((Int)×((Int)×(Unit))))))):=List.set MS oU.toNat ((List.getD MS oU.toNat ((0:Int),(aS,aC))).1,(((List.getD MS oU.toNat ((0:Int),(aS,aC))).2).1,((((List.getD MS oU.toNat ((0:Int),(aS,aC))).2).2).1,(((((List.getD MS oU.toNat ((0:Int),(aS,aC))).2).2).2).1,(r7.1.2.2.1,(((((List.getD MS oU.toNat ((0:Int),(aS,aC))).2).2).2).2).2)))));cond (aM oU (List.length Gn)) (Ao x3 x5 x8 (List.set Gn oU.toNat ((List.getD Gn oU.toNat ((0:Int),(aS,aC))).1,(((List.getD Gn oU.toNat ((0:Int),(aS,aC))).2).1,((((List.getD Gn oU.toNat ((0:Int),(aS,aC))).2).2).1,(((((List.getD Gn oU.toNat ((0:Int),(aS,aC))).2).2).2).1,((((((List.getD Gn oU.toNat ((0:Int),(aS,aC))).2).2).2).2).1,(r7.1.2.2.2.1,((((((List.getD Gn oU.toNat ((0:Int),(aS,aC))).2).2).2).2).2).2))))))) aN bb r7.1 jL Jo Qg oU (((List.getD Jo oU.toNat ((0:Int),(aS,aC))).2).1) (List.length (((List.getD Jo oU.toNat ((0:Int),(aS,aC))).2).1):Int) (0:Int)) (none)) (none)) (none)))))) (none)) ((F65 N x5 aN bb).bind fun AI=>cond (!aA AI.2 0) (some ((aS,(cj,(ba,(ba,(cI,(cL,())))))),[],AI.2)) (some (AI.1,aF,(0:Int))))
def mh.l7(N:Nat):Nat→mh.cZ
 |0,_,_,_,_,_,_,_,_,_=>none
 |n+1,x3,x5,x8,aF,aN,bb,Jo,Qg,oU=>mh.oe N (mh.vi N (mh.l7 N n) N) (mh.l7 N n) x3 x5 x8 aF aN bb Jo Qg oU
def mh.b(N:Nat)(oV:mh.cZ)(a0:aa)(a1:ag)(a2:az)(a3:ay):Option (ag×az×(Int)):=
 (iq N a0 a1).bind fun r1=>cond (!r1) (some ((aS,(cj,(ba,(ba,(cI,(cL,())))))),[],(1:Int))) ((qD N a0 a2).bind fun r2=>cond (!r2) (some ((aS,(cj,(ba,(ba,(cI,(cL,())))))),[],(1:Int))) ((w1 N a3).bind fun r3=>cond (!r3) (some ((aS,(cj,(ba,(ba,(cI,(cL,())))))),[],(1:Int))) ((xK N a2).bind fun r4=>oV a3 a1 (aS,(cj,(ba,(ba,(cI,(cL,())))))) r4 ([]) ([]) a2 (List.length a2:Int) (0:Int))))
def mh(N:Nat)(a0:aa)(a1:ag)(a2:az)(a3:ay):Option (ag×az×(Int)):=mh.b N (mh.l7 N N) a0 a1 a2 a3
abbrev ud.bQ:=aj→Int→Option (Bool)
def ud.dP(N:Nat)(cJ:ud.bQ)(x0:aj)(x3:Int):Option (Bool):=
 cond (aL x3 (List.length x0:Int)) (cond (aM x3 (List.length x0)) (cond (aL ((List.getD x0 x3.toNat aZ).1) (0:Int)) (some false) (cond (aL 24 ((List.getD x0 x3.toNat aZ).1)) (some false) (cond (aL (((List.getD x0 x3.toNat aZ).2).1) (0:Int)) (some false) (cond (bX 6 (((List.getD x0 x3.toNat aZ).2).1)) (some false) (cond (aA ((((List.getD x0 x3.toNat aZ).2).2).1) (0:Int)) (some false) (cond (aA ((((List.getD x0 x3.toNat aZ).2).2).1) (-9223372036854775808:Int)) (some false) (cond (aL 0 x3) (let v2:Int:=W .i64 (x3-1);cond (aM v2 (List.length x0)) (cond (aL ((List.getD x0 x3.toNat aZ).1) ((List.getD x0 v2.toNat aZ).1)) (some false) (let v3:Int:=W .i64 (x3-1);cond (aM v3 (List.length x0)) (cond (aA ((List.getD x0 x3.toNat aZ).1) ((List.getD x0 v3.toNat aZ).1)) (let v4:Int:=W .i64 (x3-1);cond (aM v4 (List.length x0)) (cond (bX (((List.getD x0 x3.toNat aZ).2).1) (((List.getD x0 v4.toNat aZ).2).1)) (some false) (cJ x0 (W .i64 (x3+1)))) (none)) (cJ x0 (W .i64 (x3+1)))) (none))) (none)) (cJ x0 (W .i64 (x3+1)))))))))) (none)) (some true)
def ud.l2(N:Nat):Nat→ud.bQ
 |0,_,_=>none
 |n+1,x0,x3=>ud.dP N (ud.l2 N n) x0 x3
def ud.b(N:Nat)(eW:ud.bQ)(a0:aj):Option (Bool):=
 eW a0 (0:Int)
def ud(N:Nat)(a0:aj):Option (Bool):=ud.b N (ud.l2 N N) a0
abbrev s8.bk:=aj→Int→Int→Int→Option (Int)
def s8.cY(N:Nat)(bA:s8.bk)(x0:aj)(x1:Int)(x2:Int)(x7:Int):Option (Int):=
 cond (aL x7 (List.length x0:Int)) (cond (aM x7 (List.length x0)) (cond (aA ((List.getD x0 x7.toNat aZ).1) x1) (cond (aM x7 (List.length x0)) (cond (aA (((List.getD x0 x7.toNat aZ).2).1) x2) (cond (aM x7 (List.length x0)) (some ((((List.getD x0 x7.toNat aZ).2).2).1)) (none)) (bA x0 x1 x2 (W .i64 (x7+1)))) (none)) (bA x0 x1 x2 (W .i64 (x7+1)))) (none)) (some (0:Int))
def s8.l4(N:Nat):Nat→s8.bk
 |0,_,_,_,_=>none
 |n+1,x0,x1,x2,x7=>s8.cY N (s8.l4 N n) x0 x1 x2 x7
def s8.b(N:Nat)(dG:s8.bk)(a0:aj)(a1:Int)(a2:Int):Option (Int):=
 (ud N a0).bind fun r1=>cond (!r1) (some (0:Int)) (dG a0 a1 a2 (0:Int))
def s8(N:Nat)(a0:aj)(a1:Int)(a2:Int):Option (Int):=s8.b N (s8.l4 N N) a0 a1 a2
def Ix(N:Nat)(a0:Int)(a1:Int):Option (Bool):=
 cond (aA a0 1) (some (aA a1 0)) (cond (aA a0 2) (some (aA a1 0)) (cond (aA a0 3) (some (aA a1 0)) (cond (aA a0 4) (some (aA a1 0)) (cond (aA a0 5) (cond (bX 1 a1) (some (bX a1 24)) (some false)) (cond (aA a0 6) (cond (bX 1 a1) (some (bX a1 12)) (some false)) (cond (aA a0 7) (cond (bX 1 a1) (some (bX a1 12)) (some false)) (some false)))))))
abbrev vT.bQ:=aj→Int→Option (Bool)
def vT.dP(N:Nat)(cJ:vT.bQ)(x0:aj)(x3:Int):Option (Bool):=
 cond (aL x3 (List.length x0:Int)) (cond (aM x3 (List.length x0)) (cond (aM x3 (List.length x0)) ((Ix N ((List.getD x0 x3.toNat aZ).1) (((List.getD x0 x3.toNat aZ).2).1)).bind fun r2=>cond (!r2) (some false) (cond (aM x3 (List.length x0)) (cond (aA ((((List.getD x0 x3.toNat aZ).2).2).1) (0:Int)) (some false) (cond (aL 0 x3) (cond (aM x3 (List.length x0)) (let v3:Int:=W .i64 (x3-1);cond (aM v3 (List.length x0)) (cond (aL ((List.getD x0 x3.toNat aZ).1) ((List.getD x0 v3.toNat aZ).1)) (some false) (cond (aM x3 (List.length x0)) (let v4:Int:=W .i64 (x3-1);cond (aM v4 (List.length x0)) (cond (aA ((List.getD x0 x3.toNat aZ).1) ((List.getD x0 v4.toNat aZ).1)) (cond (aM x3 (List.length x0)) (let v5:Int:=W .i64 (x3-1);cond (aM v5 (List.length x0)) (cond (bX (((List.getD x0 x3.toNat aZ).2).1) (((List.getD x0 v5.toNat aZ).2).1)) (some false) (cJ x0 (W .i64 (x3+1)))) (none)) (none)) (cJ x0 (W .i64 (x3+1)))) (none)) (none))) (none)) (none)) (cJ x0 (W .i64 (x3+1))))) (none))) (none)) (none)) (some true)
def vT.l2(N:Nat):Nat→vT.bQ
 |0,_,_=>none
 |n+1,x0,x3=>vT.dP N (vT.l2 N n) x0 x3
def vT.b(N:Nat)(eW:vT.bQ)(a0:aj):Option (Bool):=
 eW a0 (0:Int)
def vT(N:Nat)(a0:aj):Option (Bool):=vT.b N (vT.l2 N N) a0
abbrev ov.bk:=aj→Int→Int→Int→Option (Int)
def ov.cY(N:Nat)(bA:ov.bk)(x0:aj)(x1:Int)(x2:Int)(x7:Int):Option (Int):=
 cond (aL x7 (List.length x0:Int)) (cond (aM x7 (List.length x0)) (cond (aA ((List.getD x0 x7.toNat aZ).1) x1) (cond (aM x7 (List.length x0)) (cond (aA (((List.getD x0 x7.toNat aZ).2).1) x2) (cond (aM x7 (List.length x0)) (some ((((List.getD x0 x7.toNat aZ).2).2).1)) (none)) (bA x0 x1 x2 (W .i64 (x7+1)))) (none)) (bA x0 x1 x2 (W .i64 (x7+1)))) (none)) (some (0:Int))
def ov.l4(N:Nat):Nat→ov.bk
 |0,_,_,_,_=>none
 |n+1,x0,x1,x2,x7=>ov.cY N (ov.l4 N n) x0 x1 x2 x7
def ov.b(N:Nat)(dG:ov.bk)(a0:aj)(a1:Int)(a2:Int):Option (Int):=
 (vT N a0).bind fun r1=>cond (!r1) (some (0:Int)) (dG a0 a1 a2 (0:Int))
def ov(N:Nat)(a0:aj)(a1:Int)(a2:Int):Option (Int):=ov.b N (ov.l4 N N) a0 a1 a2
def F12(N:Nat):Option (Bool):=
 (F51 N).bind fun r1=>(vg N ([((1:Int),((3:Int),((1:Int),((5:Int),())))),((2:Int),((3:Int),((2:Int),((5:Int),()))))]) (3:Int)).bind fun r2=>(vg N ([((1:Int),((3:Int),((1:Int),((5:Int),())))),((2:Int),((3:Int),((2:Int),((5:Int),()))))]) (4:Int)).bind fun r3=>(mh N r1.1 r1.2.1 r1.2.2 ([((1:Int),((3:Int),((1:Int),((5:Int),())))),((2:Int),((3:Int),((2:Int),((5:Int),()))))])).bind fun r4=>cond (r2.2) (cond (aA r2.1.1 1) (cond (!r3.2) (cond (aA r4.2.2 0) (cond (aA (List.length r4.2.1:Int) 2) (cond (aM 0 (List.length r4.2.1)) (cond (aA (((((List.getD r4.2.1 (0:Int).toNat ((0:Int),(aS,aC))).2).2).2).1) (2:Int)) (cond (aM 0 (List.length r4.2.1)) (cond (aA ((((((List.getD r4.2.1 (0:Int).toNat ((0:Int),(aS,aC))).2).2).2).2).1) (1:Int)) (cond (aM 0 (List.length r4.2.1)) (cond (aA (((((((List.getD r4.2.1 (0:Int).toNat ((0:Int),(aS,aC))).2).2).2).2).2).1) (5:Int)) (cond (aM 1 (List.length r4.2.1)) (cond (aA (((((List.getD r4.2.1 (1:Int).toNat ((0:Int),(aS,aC))).2).2).2).1) (3:Int)) ((s8 N r4.1.2.2.2.1 (1:Int) (0:Int)).bind fun r5=>cond (aA r5 3) ((s8 N r4.1.2.2.2.1 (0:Int) (0:Int)).bind fun r6=>cond (aA r6 2) ((ov N r4.1.2.2.1 (2:Int) (0:Int)).bind fun r7=>cond (aA r7 5) ((ov N r4.1.2.2.1 (5:Int) (1:Int)).bind fun r8=>some (aA r8 (-5))) (some false)) (some false)) (some false)) (some false)) (none)) (some false)) (none)) (some false)) (none)) (some false)) (none)) (some false)) (some false)) (some false)) (some false)) (some false)
def F13(N:Nat)(a0:List (Int)):Option aJ:=
 some (a0,((0:Int),()))
def F42(N:Nat)(a0:aJ):Option ((Int)×aJ):=
 cond (aL a0.2.1 (List.length a0.1:Int)) (cond (aM a0.2.1 (List.length a0.1)) (some (List.getD a0.1 a0.2.1.toNat (0:Int),(a0.1,((W .i64 (a0.2.1+1)),a0.2.2)))) (none)) (some ((0:Int),(a0.1,((W .i64 (a0.2.1+1)),a0.2.2))))
def oB(N:Nat)(a0:aJ)(a1:Int):Option ((Int)×aJ):=
 (F42 N a0).bind fun r1=>let v2:Int:=W .u64 a1;cond (aA v2 0) (none) (some ((W .i64 (rem r1.1 v2)),r1.2))
def I2(N:Nat)(a0:aJ)(a1:Int):Option ((Bool)×aJ):=
 (oB N a0 a1).bind fun r1=>some (aA r1.1 (W .i64 (a1-1)),r1.2)
def HS(N:Nat)(a0:aJ):Option ((Int)×aJ):=
 (F42 N a0).bind fun r1=>cond (aA 8 0) (none) (let v2:Int:=rem r1.1 8;cond (aA v2 0) (cond (aL 1 0) (none) (some ((W .i64 (shr .u64 r1.1 1)),r1.2))) (cond (aA v2 1) (cond (aL 3 0) (none) (cond (aA 1000000000000 0) (none) (some ((W .i64 (rem (shr .u64 r1.1 3) 1000000000000)),r1.2)))) (cond (aA v2 2) (cond (aL 3 0) (none) (cond (aA 2 0) (none) (some ((W .i64 (rem (shr .u64 r1.1 3) 2)),r1.2)))) (cond (aL 3 0) (none) (cond (aA 5000 0) (none) (some ((W .i64 (rem (shr .u64 r1.1 3) 5000)),r1.2)))))))
abbrev qk.Jn:=aJ→aa→aa→ay→Int→bn→Option (aa×aJ)
abbrev qk.cB:=aJ→aa→aa→ay→Int→Option (aa×aJ)
def qk.IK(N:Nat)(ck:qk.cB)(x0:aJ)(x2:aa)(x3:aa)(MT:ay)(x4:Int)(x5:bn):Option (aa×aJ):=
 (I2 N x0 (12:Int)).bind fun sP=>cond (sP.1) ((HS N sP.2).bind fun tc=>cond (aA 1000000001 0) (none) (let KM:Int:=rem tc.1 1000000001;(HS N tc.2).bind fun tb=>cond (aA 1000000001 0) (none) (let v18:Int:=rem tb.1 1000000001;cond (small (List.length MT+List.length ([(x5.1,(x5.2.1,(KM,(v18,x5.2.2.2.2))))]))) (ck tb.2 x2 (cj,x3.2) (MT++([(x5.1,(x5.2.1,(KM,(v18,x5.2.2.2.2))))])) (W .i64 (x4-1))) (none)))) (cond (small (List.length MT+List.length ([x5]))) (ck sP.2 x2 (cj,x3.2) (MT++([x5])) (W .i64 (x4-1))) (none))
def qk.j8(N:Nat)(ck:qk.cB)(x0:aJ)(x2:aa)(x3:aa)(MT:ay)(x4:Int)(x5:bn):Option (aa×aJ):=qk.IK N ck x0 x2 x3 MT x4 x5
def qk.ji(N:Nat)(Al:qk.Jn)(ck:qk.cB)(x0:aJ)(x2:aa)(x3:aa)(MT:ay)(x4:Int):Option (aa×aJ):=
 cond (aL 0 x4) ((oB N x0 (3:Int)).bind fun r4=>(oB N r4.2 (300:Int)).bind fun r5=>(oB N r5.2 (12:Int)).bind fun r7=>(oB N r7.2 (6:Int)).bind fun r8=>(I2 N r8.2 (12:Int)).bind fun r9=>cond (r9.1) ((HS N r9.2).bind fun jL=>cond (aA 1000000000000 0) (none) (Al jL.2 x2 x3 MT x4 (r4.1,((W .i64 ((1:Int)+(rem jL.1 1000000000000))),(r7.1,(r8.1,())))))) (Al r9.2 x2 x3 MT x4 (r4.1,((W .i64 ((1:Int)+r5.1)),(r7.1,(r8.1,())))))) ((oB N x0 (300:Int)).bind fun xQ=>(oB N xQ.2 (5:Int)).bind fun AI=>(oB N AI.2 (3:Int)).bind fun D3=>(oB N D3.2 (3:Int)).bind fun xg=>(oB N xg.2 (20:Int)).bind fun MU=>let v28:Int:=W .i64 ((1:Int)+MU.1);(oB N MU.2 (100:Int)).bind fun AH=>(I2 N AH.2 (15:Int)).bind fun Gk=>cond (Gk.1) ((HS N Gk.2).bind fun KN=>some ((MT,(KN.1,(AI.1,(D3.1,(xg.1,(v28,(AH.1,x3.2.2.2.2.2.2.2))))))),KN.2)) (some ((MT,(xQ.1,(AI.1,(D3.1,(xg.1,(v28,(AH.1,x3.2.2.2.2.2.2.2))))))),Gk.2)))
def qk.l3(N:Nat):Nat→qk.cB
 |0,_,_,_,_,_=>none
 |n+1,x0,x2,x3,MT,x4=>qk.ji N (qk.j8 N (qk.l3 N n)) (qk.l3 N n) x0 x2 x3 MT x4
def qk.b(N:Nat)(jM:qk.cB)(a0:aJ):Option (aa×aJ):=
 (oB N a0 (4:Int)).bind fun r1=>jM r1.2 (cj,eD) (cj,eD) cj (W .i64 ((1:Int)+r1.1))
def qk(N:Nat)(a0:aJ):Option (aa×aJ):=qk.b N (qk.l3 N N) a0
abbrev dE.fb:=aJ→fW→Int→Option (fW×aJ)
abbrev dE.iS:=aJ→fW→Int→Option (fW×aJ)
abbrev dE.cB:=aJ→fW→Int→Option (fW×aJ)
def dE.mg(N:Nat)(gg:dE.fb)(x0:aJ)(x5:fW)(x8:Int):Option (fW×aJ):=
 cond (bX x8 7) ((oB N x0 (3000:Int)).bind fun tc=>let KM:Int:=W .i64 ((200:Int)+tc.1);(oB N tc.2 (200:Int)).bind fun tb=>let v18:Int:=W .i64 ((20:Int)+tb.1);cond (small (List.length x5+List.length ([((3:Int),((0:Int),(x8,((0:Int),((0:Int),((0:Int),(KM,((0:Int),())))))))),((6:Int),((0:Int),(x8,((0:Int),((0:Int),((0:Int),(v18,((0:Int),()))))))))]))) (gg tb.2 (x5++([((3:Int),((0:Int),(x8,((0:Int),((0:Int),((0:Int),(KM,((0:Int),())))))))),((6:Int),((0:Int),(x8,((0:Int),((0:Int),((0:Int),(v18,((0:Int),()))))))))])) (W .i64 (x8+1))) (none)) (some (x5,x0))
def dE.ot(N:Nat):Nat→dE.fb
 |0,_,_,_=>none
 |n+1,x0,x5,x8=>dE.mg N (dE.ot N n) x0 x5 x8
def dE.s0(N:Nat)(rT:dE.fb)(nC:dE.iS)(x0:aJ)(x5:fW)(x7:Int):Option (fW×aJ):=
 cond (bX x7 7) ((oB N x0 (2:Int)).bind fun jL=>let v11:Int:=W .i64 ((1:Int)+jL.1);cond (small (List.length x5+List.length ([((2:Int),(v11,(x7,((0:Int),((2:Int),aZ)))))]))) (nC jL.2 (x5++([((2:Int),(v11,(x7,((0:Int),((2:Int),aZ)))))])) (W .i64 (x7+1))) (none)) (rT x0 x5 (1:Int))
def dE.l9(N:Nat):Nat→dE.iS
 |0,_,_,_=>none
 |n+1,x0,x5,x7=>dE.s0 N (dE.ot N N) (dE.l9 N n) x0 x5 x7
def dE.ji(N:Nat)(tW:dE.iS)(ck:dE.cB)(x0:aJ)(x5:fW)(x6:Int):Option (fW×aJ):=
 cond (bX x6 4) (cond (small (List.length x5+List.length ([((1:Int),(x6,eD)),((2:Int),(x6,(x6,((0:Int),((1:Int),aZ)))))]))) (let v2:List ((Int)×((Int)×((Int)×((Int)×((Int)×((Int)×((Int)×((Int)×(Unit))))))))):=x5++([((1:Int),(x6,eD)),((2:Int),(x6,(x6,((0:Int),((1:Int),aZ)))))]);(I2 N x0 (5:Int)).bind fun r3=>cond (!r3.1) ((oB N r3.2 (400:Int)).bind fun r4=>let v5:Int:=W .i64 ((1:Int)+r4.1);cond (small (List.length v2+List.length ([((5:Int),(x6,((0:Int),((0:Int),((0:Int),((0:Int),(v5,((0:Int),()))))))))]))) (ck r4.2 (v2++([((5:Int),(x6,((0:Int),((0:Int),((0:Int),((0:Int),(v5,((0:Int),()))))))))])) (W .i64 (x6+1))) (none)) (ck r3.2 v2 (W .i64 (x6+1)))) (none)) (tW x0 x5 (5:Int))
def dE.l3(N:Nat):Nat→dE.cB
 |0,_,_,_=>none
 |n+1,x0,x5,x6=>dE.ji N (dE.l9 N N) (dE.l3 N n) x0 x5 x6
def dE.b(N:Nat)(jM:dE.cB)(a0:aJ)(a1:aa):Option (fW×aJ):=
 jM a0 ([]) (1:Int)
def dE(N:Nat)(a0:aJ)(a1:aa):Option (fW×aJ):=dE.b N (dE.l3 N N) a0 a1
def Mn(N:Nat)(a0:aJ)(a1:aa)(a2:Int):Option (fK×aJ):=
 cond (aM a2 (List.length a1.1)) ((oB N a0 (61:Int)).bind fun r1=>(I2 N r1.2 (20:Int)).bind fun r6=>cond (r6.1) ((HS N r6.2).bind fun r7=>cond (aA 1000000000000 0) (none) (some (((9:Int),((0:Int),((0:Int),(a2,((0:Int),((0:Int),((0:Int),((W .i64 ((1:Int)+(rem r7.1 1000000000000))),())))))))),r7.2))) (some (((9:Int),((0:Int),((0:Int),(a2,((0:Int),((0:Int),((0:Int),((mx 1 (mn 1000000000000 (W .i64 ((W .i64 ((((List.getD a1.1 a2.toNat aC).2).1)+r1.1))-30)))),())))))))),r6.2))) (none)
def Po(N:Nat)(a0:aJ)(a1:aa):Option (fK×aJ):=
 (oB N a0 (List.length a1.1:Int)).bind fun r1=>(oB N r1.2 (7:Int)).bind fun r2=>let v3:Int:=W .i64 ((1:Int)+r2.1);(oB N r2.2 (2:Int)).bind fun r4=>let v5:Int:=W .i64 ((1:Int)+r4.1);(oB N r4.2 (30:Int)).bind fun r6=>cond (aM r1.1 (List.length a1.1)) ((oB N r6.2 (21:Int)).bind fun r8=>(I2 N r8.2 (30:Int)).bind fun lD=>cond (lD.1) ((HS N lD.2).bind fun sP=>cond (aA 1000000000 0) (none) ((HS N sP.2).bind fun tb=>cond (aA 1000000000000 0) (none) (some (((7:Int),((0:Int),(v3,(r1.1,(v5,((0:Int),((W .i64 ((1:Int)+(rem sP.1 1000000000))),((W .i64 ((1:Int)+(rem tb.1 1000000000000))),())))))))),tb.2)))) (some (((7:Int),((0:Int),(v3,(r1.1,(v5,((0:Int),((W .i64 ((1:Int)+r6.1)),((mx 1 (mn 1000000000000 (W .i64 ((W .i64 ((((List.getD a1.1 r1.1.toNat aC).2).1)+r8.1))-10)))),())))))))),lD.2))) (none)
def Pp(N:Nat)(a0:aJ)(a1:aa):Option (fK×aJ):=
 (oB N a0 (4:Int)).bind fun r1=>let v2:Int:=W .i64 ((1:Int)+r1.1);(oB N r1.2 (7:Int)).bind fun r3=>let v4:Int:=W .i64 ((1:Int)+r3.1);(oB N r3.2 (List.length a1.1:Int)).bind fun r5=>(oB N r5.2 (36:Int)).bind fun r6=>let v7:Int:=W .i64 ((1:Int)+r6.1);cond (aA v7 1) (some ((v7,(v2,eD)),r6.2)) (cond (aA v7 11) (some ((v7,(v2,eD)),r6.2)) (cond (aA v7 12) (some ((v7,(v2,eD)),r6.2)) (cond (aA v7 13) (some ((v7,(v2,eD)),r6.2)) (cond (aA v7 2) ((oB N r6.2 (2:Int)).bind fun r8=>some ((v7,(v2,(v4,((0:Int),((W .i64 ((1:Int)+r8.1)),aZ))))),r8.2)) (cond (aA v7 3) ((HS N r6.2).bind fun jL=>some ((v7,((0:Int),(v4,((0:Int),((0:Int),((0:Int),((mx jL.1 1),((0:Int),())))))))),jL.2)) (cond (aA v7 4) ((HS N r6.2).bind fun mK=>some ((v7,((0:Int),(v4,((0:Int),((0:Int),((0:Int),((mx mK.1 1),((0:Int),())))))))),mK.2)) (cond (aA v7 5) ((HS N r6.2).bind fun sP=>some ((v7,(v2,((0:Int),((0:Int),((0:Int),((0:Int),((mx sP.1 1),((0:Int),())))))))),sP.2)) (cond (aA v7 22) ((HS N r6.2).bind fun wi=>some ((v7,(v2,((0:Int),((0:Int),((0:Int),((0:Int),((mx wi.1 1),((0:Int),())))))))),wi.2)) (cond (aA v7 6) ((HS N r6.2).bind fun ug=>cond (aA 1000000000001 0) (none) (some ((v7,((0:Int),(v4,((0:Int),((0:Int),((0:Int),((rem ug.1 1000000000001),((0:Int),())))))))),ug.2))) (cond (aA v7 8) ((oB N r6.2 (40:Int)).bind fun Cp=>some ((v7,((0:Int),(v4,((0:Int),((0:Int),((W .i64 ((1:Int)+Cp.1)),bR)))))),Cp.2)) (cond (aA v7 9) ((Mn N r6.2 a1 r5.1).bind fun D4=>some (D4.1,D4.2)) (cond (aA v7 10) ((oB N r6.2 (3:Int)).bind fun xQ=>some ((v7,((0:Int),((0:Int),((0:Int),((0:Int),((0:Int),((W .i64 ((1:Int)+xQ.1)),((0:Int),())))))))),xQ.2)) (cond (aA v7 14) (some ((v7,(v2,(v4,j1))),r6.2)) (cond (aA v7 15) (some ((v7,Xc),r6.2)) (cond (aA v7 16) (some ((v7,Xc),r6.2)) (cond (aA v7 18) (some ((v7,Xc),r6.2)) (cond (aA v7 20) (some ((v7,Xc),r6.2)) (cond (aA v7 21) (some ((v7,Xc),r6.2)) (cond (aA v7 17) ((oB N r6.2 (60:Int)).bind fun D3=>(oB N D3.2 (20:Int)).bind fun MU=>cond (aM r5.1 (List.length a1.1)) (some ((v7,((0:Int),(v4,((0:Int),((0:Int),((W .i64 ((1:Int)+D3.1)),((W .i64 ((1:Int)+MU.1)),(((List.getD a1.1 r5.1.toNat aC).2).1,())))))))),MU.2)) (none)) (cond (aA v7 19) ((oB N r6.2 (60:Int)).bind fun AH=>(oB N AH.2 (80:Int)).bind fun KN=>some ((v7,(v2,((0:Int),((0:Int),((0:Int),((W .i64 ((1:Int)+AH.1)),((0:Int),((W .i64 (KN.1-60)),())))))))),KN.2)) ((Po N r6.2 a1).bind fun r33=>some (r33.1,r33.2))))))))))))))))))))))
abbrev yp.cB:=aJ→aa→fW→Int→Option (fW×aJ)
def yp.ji(N:Nat)(ck:yp.cB)(x0:aJ)(x4:aa)(x7:fW)(x8:Int):Option (fW×aJ):=
 cond (aL 0 x8) ((oB N x0 (8:Int)).bind fun r5=>cond (aA r5.1 0) ((Pp N r5.2 x4).bind fun r6=>cond (small (List.length x7+List.length ([r6.1]))) (ck r6.2 x4 (x7++([r6.1])) (W .i64 (x8-1))) (none)) (cond (aA r5.1 1) ((oB N r5.2 (List.length x4.1:Int)).bind fun r9=>(Mn N r9.2 x4 r9.1).bind fun jL=>cond (small (List.length x7+List.length ([jL.1]))) (ck jL.2 x4 (x7++([jL.1])) (W .i64 (x8-1))) (none)) ((Po N r5.2 x4).bind fun lD=>cond (small (List.length x7+List.length ([lD.1]))) (ck lD.2 x4 (x7++([lD.1])) (W .i64 (x8-1))) (none)))) (some (x7,x0))
def yp.l3(N:Nat):Nat→yp.cB
 |0,_,_,_,_=>none
 |n+1,x0,x4,x7,x8=>yp.ji N (yp.l3 N n) x0 x4 x7 x8
def yp.b(N:Nat)(jM:yp.cB)(a0:aJ)(a1:aa)(a2:Int):Option (fW×aJ):=
 (dE N a0 a1).bind fun r1=>(oB N r1.2 (W .i64 (a2+1))).bind fun r3=>jM r3.2 a1 r1.1 r3.1
def yp(N:Nat)(a0:aJ)(a1:aa)(a2:Int):Option (fW×aJ):=yp.b N (yp.l3 N N) a0 a1 a2
abbrev xN.cB:=aJ→aa→fW→Int→Option (fW×aJ)
def xN.ji(N:Nat)(ck:xN.cB)(x0:aJ)(x3:aa)(x5:fW)(x6:Int):Option (fW×aJ):=
 cond (aL 0 x6) ((I2 N x0 (2:Int)).bind fun r3=>cond (r3.1) ((oB N r3.2 (List.length x3.1:Int)).bind fun r4=>(Mn N r4.2 x3 r4.1).bind fun r5=>cond (small (List.length x5+List.length ([r5.1]))) (ck r5.2 x3 (x5++([r5.1])) (W .i64 (x6-1))) (none)) ((Pp N r3.2 x3).bind fun r8=>cond (small (List.length x5+List.length ([r8.1]))) (ck r8.2 x3 (x5++([r8.1])) (W .i64 (x6-1))) (none))) (some (x5,x0))
def xN.l3(N:Nat):Nat→xN.cB
 |0,_,_,_,_=>none
 |n+1,x0,x3,x5,x6=>xN.ji N (xN.l3 N n) x0 x3 x5 x6
def xN.b(N:Nat)(jM:xN.cB)(a0:aJ)(a1:aa):Option (fW×aJ):=
 (oB N a0 (3:Int)).bind fun r1=>jM r1.2 a1 ([]) r1.1
def xN(N:Nat)(a0:aJ)(a1:aa):Option (fW×aJ):=xN.b N (xN.l3 N N) a0 a1
def A9(N:Nat)(a0:Int)(a1:Int)(a2:Int):Option (Bool):=
 cond (bX a1 a0) (some (bX a0 a2)) (some false)
abbrev iK.bk:=aa→Int→Option (Bool)
def iK.cY(N:Nat)(bA:iK.bk)(x1:aa)(x3:Int):Option (Bool):=
 cond (aL x3 (List.length x1.1:Int)) (cond (aM x3 (List.length x1.1)) ((A9 N ((List.getD x1.1 x3.toNat aC).1) (0:Int) (3:Int)).bind fun r2=>cond (!r2) (some false) ((A9 N (((List.getD x1.1 x3.toNat aC).2).1) (1:Int) (1000000000000:Int)).bind fun r3=>cond (!r3) (some false) ((A9 N ((((List.getD x1.1 x3.toNat aC).2).2).1) (0:Int) (1000000000:Int)).bind fun r4=>cond (!r4) (some false) ((A9 N (((((List.getD x1.1 x3.toNat aC).2).2).2).1) (0:Int) (1000000000:Int)).bind fun r5=>cond (!r5) (some false) (bA x1 (W .i64 (x3+1))))))) (none)) (cond (bX 0 x1.2.1) ((A9 N x1.2.2.1 (0:Int) (4:Int)).bind fun r7=>cond (r7) ((A9 N x1.2.2.2.1 (0:Int) (1000000:Int)).bind fun r8=>cond (r8) ((A9 N x1.2.2.2.2.1 (0:Int) (1000000:Int)).bind fun r9=>cond (r9) ((A9 N x1.2.2.2.2.2.1 (1:Int) (4611686018427387904:Int)).bind fun jL=>cond (jL) (some (bX 0 x1.2.2.2.2.2.2.1)) (some false)) (some false)) (some false)) (some false)) (some false))
def iK.l4(N:Nat):Nat→iK.bk
 |0,_,_=>none
 |n+1,x1,x3=>iK.cY N (iK.l4 N n) x1 x3
def iK.b(N:Nat)(dG:iK.bk)(a0:aa):Option (Bool):=
 cond (aL (List.length a0.1:Int) 1) (some false) (cond (aL 6 (List.length a0.1:Int)) (some false) (dG a0 (0:Int)))
def iK(N:Nat)(a0:aa):Option (Bool):=iK.b N (iK.l4 N N) a0
abbrev gH.cZ:=aa→ag→ag→(List (Int))→Int→Option (ag×(Int))
abbrev gH.Qi:=aa→ag→ag→(List (Int))→Option (ag×(Int))
def gH.oe(N:Nat)(cK:gH.cZ)(x1:aa)(x2:ag)(x4:ag)(Tn:List (Int))(x5:Int):Option (ag×(Int)):=
 cond (aL x5 (List.length x1.1:Int)) (cond (aM x5 (List.length x1.1)) (cond (small (List.length Tn+List.length ([((List.getD x1.1 x5.toNat aC).2).1]))) (cK x1 x2 (x4.1,(x4.2.1,(x4.2.2.1,(x4.2.2.2.1,(cI,x4.2.2.2.2.2))))) (Tn++([((List.getD x1.1 x5.toNat aC).2).1])) (W .i64 (x5+1))) (none)) (none)) (some ((x4.1,(x4.2.1,(x4.2.2.1,(x4.2.2.2.1,(Tn,x4.2.2.2.2.2))))),(0:Int)))
def gH.l7(N:Nat):Nat→gH.cZ
 |0,_,_,_,_,_=>none
 |n+1,x1,x2,x4,Tn,x5=>gH.oe N (gH.l7 N n) x1 x2 x4 Tn x5
def gH.M8(N:Nat)(oV:gH.cZ)(x1:aa)(x2:ag)(x4:ag)(Tn:List (Int)):Option (ag×(Int)):=
 oV x1 x2 x4 Tn (0:Int)
def gH.j6(N:Nat)(x1:aa)(x2:ag)(x4:ag)(Tn:List (Int)):Option (ag×(Int)):=gH.M8 N (gH.l7 N N) x1 x2 x4 Tn
def gH.b(N:Nat)(DF:gH.Qi)(a0:aa):Option (ag×(Int)):=
 (iK N a0).bind fun r1=>cond (!r1) (some ((aS,(cj,(ba,(ba,(cI,(cL,())))))),(1:Int))) (cond (!aA a0.2.1 0) (DF a0 (aS,(cj,(ba,(ba,(cI,(cL,())))))) (aS,(cj,([((1:Int),((0:Int),((W .i64 (0-a0.2.1)),()))),((3:Int),((0:Int),(a0.2.1,())))],(ba,(cI,(cL,())))))) cI) (DF a0 (aS,(cj,(ba,(ba,(cI,(cL,())))))) (aS,(cj,(ba,(ba,(cI,(cL,())))))) cI))
def gH(N:Nat)(a0:aa):Option (ag×(Int)):=gH.b N (gH.j6 N) a0
def ZW(N:Nat)(a0:aa):Option (aE×(Int)):=
 (gH N a0).bind fun r1=>cond (!aA r1.2 0) (some (((0:Int),((0:Int),((aS,(cj,(ba,(ba,(cI,(cL,())))))),(((0:Int),((0:Int),((0:Int),((0:Int),(cj,(([]:List ((Int)×((List ((Int)×((Int)×(Unit))))×((Int)×((Int)×((Int)×((Int)×(Unit)))))))),(cj,(cI,(aS,(aS,())))))))))),(((0:Int),((0:Int),(xl,((0:Int),())))),()))))),r1.2)) (some (((0:Int),((1:Int),(r1.1,(((0:Int),((0:Int),((0:Int),((0:Int),(cj,(([]:List ((Int)×((List ((Int)×((Int)×(Unit))))×((Int)×((Int)×((Int)×((Int)×(Unit)))))))),(cj,(cI,(aS,(aS,())))))))))),(((0:Int),((0:Int),(xl,((0:Int),())))),()))))),(0:Int)))
def ZK(N:Nat)(a0:Int):Option (Bool):=
 cond (bX 1 a0) (some (bX a0 22)) (some false)
def SG(N:Nat)(a0:Int):Option (ByteArray):=
 cond (aA a0 1) (some (strOf [77])) (cond (aA a0 11) (some (strOf [77])) (cond (aA a0 12) (some (strOf [77])) (cond (aA a0 13) (some (strOf [77])) (cond (aA a0 2) (some (strOf [77,65,83])) (cond (aA a0 3) (some (strOf [65,81])) (cond (aA a0 4) (some (strOf [65,81])) (cond (aA a0 6) (some (strOf [65,81])) (cond (aA a0 5) (some (strOf [77,81])) (cond (aA a0 22) (some (strOf [77,81])) (cond (aA a0 7) (some (strOf [65,73,83,81,80])) (cond (aA a0 8) (some (strOf [65,68])) (cond (aA a0 9) (some (strOf [73,80])) (cond (aA a0 10) (some (strOf [81])) (cond (aA a0 14) (some (strOf [77,65])) (cond (aA a0 17) (some (strOf [65,68,81,80])) (cond (aA a0 19) (some (strOf [77,68,80])) (some (strOf []))))))))))))))))))
def ZI(N:Nat)(a0:Int):Option ((Int)×(Int)):=
 cond (aA a0 6) (some ((0:Int),(1000000000000:Int))) (cond (aA a0 7) (some ((1:Int),(1000000000:Int))) (cond (aA a0 17) (some ((1:Int),(1000000000:Int))) (cond (aA a0 10) (some ((1:Int),(1000000:Int))) (some ((1:Int),(9223372036854775807:Int))))))
def ZJ(N:Nat)(a0:Int):Option ((Int)×(Int)):=
 cond (aA a0 19) (some ((-1152921504606846976:Int),(1152921504606846976:Int))) (some ((1:Int),(1000000000000:Int)))
def SH(N:Nat)(a0:Int)(a1:Int):Option ((Int)×(Int)):=
 cond (aA a1 77) (some ((1:Int),(12:Int))) (cond (aA a1 65) (some ((1:Int),(24:Int))) (cond (aA a1 73) (some ((0:Int),(5:Int))) (cond (aA a1 83) (some ((1:Int),(2:Int))) (cond (aA a1 68) (some ((1:Int),(1099511627776:Int))) (cond (aA a1 81) ((ZI N a0).bind fun r1=>some (r1.1,r1.2)) ((ZJ N a0).bind fun r2=>some (r2.1,r2.2)))))))
def SI(N:Nat)(a0:fK)(a1:Int):Option (Int):=
 cond (aA a1 77) (some a0.2.1) (cond (aA a1 65) (some a0.2.2.1) (cond (aA a1 73) (some a0.2.2.2.1) (cond (aA a1 83) (some a0.2.2.2.2.1) (cond (aA a1 68) (some a0.2.2.2.2.2.1) (cond (aA a1 81) (some a0.2.2.2.2.2.2.1) (some a0.2.2.2.2.2.2.2.1))))))
def SJ(N:Nat)(a0:fK)(a1:Int)(a2:Int):Option fK:=
 cond (aA a1 77) (some (a0.1,(a2,a0.2.2))) (cond (aA a1 65) (some (a0.1,(a0.2.1,(a2,a0.2.2.2)))) (cond (aA a1 73) (some (a0.1,(a0.2.1,(a0.2.2.1,(a2,a0.2.2.2.2))))) (cond (aA a1 83) (some (a0.1,(a0.2.1,(a0.2.2.1,(a0.2.2.2.1,(a2,a0.2.2.2.2.2)))))) (cond (aA a1 68) (some (a0.1,(a0.2.1,(a0.2.2.1,(a0.2.2.2.1,(a0.2.2.2.2.1,(a2,a0.2.2.2.2.2.2))))))) (cond (aA a1 81) (some (a0.1,(a0.2.1,(a0.2.2.1,(a0.2.2.2.1,(a0.2.2.2.2.1,(a0.2.2.2.2.2.1,(a2,a0.2.2.2.2.2.2.2)))))))) (some (a0.1,(a0.2.1,(a0.2.2.1,(a0.2.2.2.1,(a0.2.2.2.2.1,(a0.2.2.2.2.2.1,(a0.2.2.2.2.2.2.1,(a2,a0.2.2.2.2.2.2.2.2))))))))))))))
abbrev nc.eX:=fK→ByteArray→fK→Int→Option (Bool)
def nc.oX(N:Nat)(eS:nc.eX)(x1:fK)(x3:ByteArray)(x4:fK)(x5:Int):Option (Bool):=
 cond (aL x5 (ByteArray.size x3:Int)) (cond (aM x5 (ByteArray.size x3)) ((SH N x1.1 ((x3.data.getD x5.toNat 0).toNat:Int)).bind fun r4=>cond (aM x5 (ByteArray.size x3)) ((SI N x1 ((x3.data.getD x5.toNat 0).toNat:Int)).bind fun r5=>cond (aL r5 r4.1) (some false) (cond (aL r4.2 r5) (some false) (cond (aM x5 (ByteArray.size x3)) ((SJ N x4 ((x3.data.getD x5.toNat 0).toNat:Int) r5).bind fun r6=>eS x1 x3 r6 (W .i64 (x5+1))) (none)))) (none)) (none)) (some (qQ (.pair (.int .i64) (.pair (.int .i64) (.pair (.int .i64) (.pair (.int .i64) (.pair (.int .i64) (.pair (.int .i64) (.pair (.int .i64) (.pair (.int .i64) .unit)))))))) x4 x1))
def nc.l6(N:Nat):Nat→nc.eX
 |0,_,_,_,_=>none
 |n+1,x1,x3,x4,x5=>nc.oX N (nc.l6 N n) x1 x3 x4 x5
def nc.b(N:Nat)(qq:nc.eX)(a0:fK):Option (Bool):=
 (ZK N a0.1).bind fun r1=>cond (!r1) (some false) ((SG N a0.1).bind fun r2=>qq a0 r2 (a0.1,Xc) (0:Int))
def nc(N:Nat)(a0:fK):Option (Bool):=nc.b N (nc.l6 N N) a0
abbrev jP.bQ:=ax→Int→Option (Bool)
def jP.dP(N:Nat)(cJ:jP.bQ)(x0:ax)(x3:Int):Option (Bool):=
 cond (aL x3 (List.length x0:Int)) (cond (aM x3 (List.length x0)) (cond (aL ((List.getD x0 x3.toNat bR).1) (1:Int)) (some false) (cond (aM x3 (List.length x0)) (cond (aL 12 ((List.getD x0 x3.toNat bR).1)) (some false) (cond (aM x3 (List.length x0)) (cond (aL (((List.getD x0 x3.toNat bR).2).1) (1:Int)) (some false) (cond (aM x3 (List.length x0)) (cond (aL 4 (((List.getD x0 x3.toNat bR).2).1)) (some false) (cond (aL 0 x3) (cond (aM x3 (List.length x0)) (let v2:Int:=W .i64 (x3-1);cond (aM v2 (List.length x0)) (cond (bX ((List.getD x0 x3.toNat bR).1) ((List.getD x0 v2.toNat bR).1)) (some false) (cJ x0 (W .i64 (x3+1)))) (none)) (none)) (cJ x0 (W .i64 (x3+1))))) (none))) (none))) (none))) (none)) (some true)
def jP.l2(N:Nat):Nat→jP.bQ
 |0,_,_=>none
 |n+1,x0,x3=>jP.dP N (jP.l2 N n) x0 x3
def jP.b(N:Nat)(eW:jP.bQ)(a0:ax):Option (Bool):=
 eW a0 (0:Int)
def jP(N:Nat)(a0:ax):Option (Bool):=jP.b N (jP.l2 N N) a0
abbrev jk.bQ:=ax→Int→Int→Option (Int)
def jk.dP(N:Nat)(cJ:jk.bQ)(x0:ax)(x1:Int)(x5:Int):Option (Int):=
 cond (aL x5 (List.length x0:Int)) (cond (aM x5 (List.length x0)) (cond (aA ((List.getD x0 x5.toNat bR).1) x1) (cond (aM x5 (List.length x0)) (some (((List.getD x0 x5.toNat bR).2).1)) (none)) (cJ x0 x1 (W .i64 (x5+1)))) (none)) (some (0:Int))
def jk.l2(N:Nat):Nat→jk.bQ
 |0,_,_,_=>none
 |n+1,x0,x1,x5=>jk.dP N (jk.l2 N n) x0 x1 x5
def jk.b(N:Nat)(eW:jk.bQ)(a0:ax)(a1:Int):Option (Int):=
 eW a0 a1 (0:Int)
def jk(N:Nat)(a0:ax)(a1:Int):Option (Int):=jk.b N (jk.l2 N N) a0 a1
abbrev gX.Jp:=ax→Int→ax→Int→Option (ax×(Int))
abbrev gX.cZ:=ax→Int→ax→Int→Option (ax×(Int))
def gX.Is(N:Nat)(x0:ax)(x1:Int)(x6:ax)(x7:Int):Option (ax×(Int)):=
 cond (fM 0 x7 (List.length x0:Int) (List.length x0:Int)) (let v6:List ((Int)×((Int)×(Unit))):=List.drop (0:Int).toNat (List.take x7.toNat x0);cond (small (List.length x6+List.length v6)) (let v7:List ((Int)×((Int)×(Unit))):=x6++v6;cond (small (List.length v7+List.length ([(x1,((1:Int),()))]))) (let v8:List ((Int)×((Int)×(Unit))):=v7++([(x1,((1:Int),()))]);cond (fM x7 (List.length x0:Int) (List.length x0:Int) (List.length x0:Int)) (let v9:List ((Int)×((Int)×(Unit))):=List.drop x7.toNat (List.take (List.length x0:Int).toNat x0);cond (small (List.length v8+List.length v9)) (some ((v8++v9),(0:Int))) (none)) (none)) (none)) (none)) (none)
def gX.j9(N:Nat)(x0:ax)(x1:Int)(x6:ax)(x7:Int):Option (ax×(Int)):=gX.Is N x0 x1 x6 x7
def gX.oe(N:Nat)(Ap:gX.Jp)(cK:gX.cZ)(x0:ax)(x1:Int)(x6:ax)(x7:Int):Option (ax×(Int)):=
 cond (aL x7 (List.length x0:Int)) (cond (aM x7 (List.length x0)) (cond (aL ((List.getD x0 x7.toNat bR).1) x1) (cK x0 x1 x6 (W .i64 (x7+1))) (Ap x0 x1 x6 x7)) (none)) (Ap x0 x1 x6 x7)
def gX.l7(N:Nat):Nat→gX.cZ
 |0,_,_,_,_=>none
 |n+1,x0,x1,x6,x7=>gX.oe N (gX.j9 N) (gX.l7 N n) x0 x1 x6 x7
def gX.b(N:Nat)(oV:gX.cZ)(a0:ax)(a1:Int):Option (ax×(Int)):=
 (jP N a0).bind fun r1=>cond (!r1) (some ([],(1:Int))) (cond (aL a1 1) (some ([],(1:Int))) (cond (aL 12 a1) (some ([],(1:Int))) ((jk N a0 a1).bind fun r2=>cond (!aA r2 0) (some ([],(4:Int))) (oV a0 a1 ([]) (0:Int)))))
def gX(N:Nat)(a0:ax)(a1:Int):Option (ax×(Int)):=gX.b N (gX.l7 N N) a0 a1
def eh(N:Nat)(a0:Int):Option cE:=
 some (a0,bR)
abbrev iB.fL:=ay→Int→bn→Int→Option (Bool)
abbrev iB.Z3:=ay→Int→bn→Option (Bool)
abbrev iB.bQ:=ay→Int→Option (Bool)
def iB.yh(N:Nat)(cJ:iB.bQ)(dI:iB.fL)(x0:ay)(x3:Int)(x4:bn)(x5:Int):Option (Bool):=
 cond (aL x5 x3) (cond (aA x4.2.2.1 1) (cond (aM x5 (List.length x0)) (cond (aA ((((List.getD x0 x5.toNat aC).2).2).1) (1:Int)) (cond (aM x5 (List.length x0)) (cond (aA (((List.getD x0 x5.toNat aC).2).1) x4.2.1) (some false) (dI x0 x3 x4 (W .i64 (x5+1)))) (none)) (dI x0 x3 x4 (W .i64 (x5+1)))) (none)) (dI x0 x3 x4 (W .i64 (x5+1)))) (cJ x0 (W .i64 (x3+1)))
def iB.l8(N:Nat)(cJ:iB.bQ):Nat→iB.fL
 |0,_,_,_,_=>none
 |n+1,x0,x3,x4,x5=>iB.yh N cJ (iB.l8 N cJ n) x0 x3 x4 x5
def iB.Zn(N:Nat)(Aq:iB.fL)(cJ:iB.bQ)(x0:ay)(x3:Int)(x4:bn):Option (Bool):=
 Aq x0 x3 x4 (0:Int)
def iB.j7(N:Nat)(cJ:iB.bQ)(x0:ay)(x3:Int)(x4:bn):Option (Bool):=iB.Zn N (iB.l8 N cJ N) cJ x0 x3 x4
def iB.dP(N:Nat)(Jq:iB.Z3)(cJ:iB.bQ)(x0:ay)(x3:Int):Option (Bool):=
 cond (aL x3 (List.length x0:Int)) (cond (aM x3 (List.length x0)) (cond (aL ((List.getD x0 x3.toNat aC).1) (1:Int)) (some false) (cond (aL 24 ((List.getD x0 x3.toNat aC).1)) (some false) (cond (aL (((List.getD x0 x3.toNat aC).2).1) (1:Int)) (some false) (cond (aL 12 (((List.getD x0 x3.toNat aC).2).1)) (some false) (cond (!aA ((((List.getD x0 x3.toNat aC).2).2).1) (1:Int)) (cond (!aA ((((List.getD x0 x3.toNat aC).2).2).1) (2:Int)) (some false) (cond (aL (((((List.getD x0 x3.toNat aC).2).2).2).1) (0:Int)) (some false) (cond (aL 1000000000000 (((((List.getD x0 x3.toNat aC).2).2).2).1)) (some false) (cond (aL 0 x3) (let v2:Int:=W .i64 (x3-1);cond (aM v2 (List.length x0)) (cond (bX ((List.getD x0 x3.toNat aC).1) ((List.getD x0 v2.toNat aC).1)) (some false) (Jq x0 x3 (List.getD x0 x3.toNat aC))) (none)) (Jq x0 x3 (List.getD x0 x3.toNat aC)))))) (cond (aL (((((List.getD x0 x3.toNat aC).2).2).2).1) (0:Int)) (some false) (cond (aL 1000000000000 (((((List.getD x0 x3.toNat aC).2).2).2).1)) (some false) (cond (aL 0 x3) (let v9:Int:=W .i64 (x3-1);cond (aM v9 (List.length x0)) (cond (bX ((List.getD x0 x3.toNat aC).1) ((List.getD x0 v9.toNat aC).1)) (some false) (Jq x0 x3 (List.getD x0 x3.toNat aC))) (none)) (Jq x0 x3 (List.getD x0 x3.toNat aC)))))))))) (none)) (some true)
def iB.l2(N:Nat):Nat→iB.bQ
 |0,_,_=>none
 |n+1,x0,x3=>iB.dP N (iB.j7 N (iB.l2 N n)) (iB.l2 N n) x0 x3
def iB.b(N:Nat)(eW:iB.bQ)(a0:ay):Option (Bool):=
 eW a0 (0:Int)
def iB(N:Nat)(a0:ay):Option (Bool):=iB.b N (iB.l2 N N) a0
abbrev ko.bk:=ax→ay→Int→Option (Bool)
def ko.cY(N:Nat)(bA:ko.bk)(x0:ax)(x1:ay)(x5:Int):Option (Bool):=
 cond (aL x5 (List.length x1:Int)) (cond (aM x5 (List.length x1)) ((jk N x0 (((List.getD x1 x5.toNat aC).2).1)).bind fun r4=>cond (aA r4 0) (some false) (bA x0 x1 (W .i64 (x5+1)))) (none)) (some true)
def ko.l4(N:Nat):Nat→ko.bk
 |0,_,_,_=>none
 |n+1,x0,x1,x5=>ko.cY N (ko.l4 N n) x0 x1 x5
def ko.b(N:Nat)(dG:ko.bk)(a0:ax)(a1:ay):Option (Bool):=
 (jP N a0).bind fun r1=>cond (!r1) (some false) ((iB N a1).bind fun r2=>cond (!r2) (some false) (dG a0 a1 (0:Int)))
def ko(N:Nat)(a0:ax)(a1:ay):Option (Bool):=ko.b N (ko.l4 N N) a0 a1
abbrev jQ.bQ:=ay→Int→bn→Int→Option (bn×(Bool))
def jQ.dP(N:Nat)(cJ:jQ.bQ)(x0:ay)(x1:Int)(x4:bn)(x6:Int):Option (bn×(Bool)):=
 cond (aL x6 (List.length x0:Int)) (cond (aM x6 (List.length x0)) (cond (aA ((List.getD x0 x6.toNat aC).1) x1) (cond (aM x6 (List.length x0)) (some (List.getD x0 x6.toNat aC,true)) (none)) (cJ x0 x1 x4 (W .i64 (x6+1)))) (none)) (some (aC,false))
def jQ.l2(N:Nat):Nat→jQ.bQ
 |0,_,_,_,_=>none
 |n+1,x0,x1,x4,x6=>jQ.dP N (jQ.l2 N n) x0 x1 x4 x6
def jQ.b(N:Nat)(eW:jQ.bQ)(a0:ay)(a1:Int):Option (bn×(Bool)):=
 eW a0 a1 aC (0:Int)
def jQ(N:Nat)(a0:ay)(a1:Int):Option (bn×(Bool)):=jQ.b N (jQ.l2 N N) a0 a1
abbrev sK.bk:=ay→Int→Int→Option (Int)
def sK.cY(N:Nat)(bA:sK.bk)(x0:ay)(x1:Int)(x5:Int):Option (Int):=
 cond (aL x5 (List.length x0:Int)) (cond (aM x5 (List.length x0)) (cond (aA (((List.getD x0 x5.toNat aC).2).1) x1) (cond (aM x5 (List.length x0)) (cond (aA ((((List.getD x0 x5.toNat aC).2).2).1) (1:Int)) (cond (aM x5 (List.length x0)) (some ((List.getD x0 x5.toNat aC).1)) (none)) (bA x0 x1 (W .i64 (x5+1)))) (none)) (bA x0 x1 (W .i64 (x5+1)))) (none)) (some (0:Int))
def sK.l4(N:Nat):Nat→sK.bk
 |0,_,_,_=>none
 |n+1,x0,x1,x5=>sK.cY N (sK.l4 N n) x0 x1 x5
def sK.b(N:Nat)(dG:sK.bk)(a0:ay)(a1:Int):Option (Int):=
 (iB N a0).bind fun r1=>cond (!r1) (some (0:Int)) (dG a0 a1 (0:Int))
def sK(N:Nat)(a0:ay)(a1:Int):Option (Int):=sK.b N (sK.l4 N N) a0 a1
abbrev eH.Ar:=ay→bn→ay→Int→Option (ay×(Int))
abbrev eH.fb:=ay→bn→ay→Int→Option (ay×(Int))
abbrev eH.Gp:=ay→bn→Option (ay×(Int))
def eH.tS(N:Nat)(x1:ay)(x5:bn)(aF:ay)(aN:Int):Option (ay×(Int)):=
 cond (fM 0 aN (List.length x1:Int) (List.length x1:Int)) (let v10:List ((Int)×((Int)×((Int)×((Int)×(Unit))))):=List.drop (0:Int).toNat (List.take aN.toNat x1);cond (small (List.length aF+List.length v10)) (let v11:List ((Int)×((Int)×((Int)×((Int)×(Unit))))):=aF++v10;cond (small (List.length v11+List.length ([x5]))) (let MS:List ((Int)×((Int)×((Int)×((Int)×(Unit))))):=v11++([x5]);cond (fM aN (List.length x1:Int) (List.length x1:Int) (List.length x1:Int)) (let Gn:List ((Int)×((Int)×((Int)×((Int)×(Unit))))):=List.drop aN.toNat (List.take (List.length x1:Int).toNat x1);cond (small (List.length MS+List.length Gn)) (some ((MS++Gn),(0:Int))) (none)) (none)) (none)) (none)) (none)
def eH.Bi(N:Nat)(x1:ay)(x5:bn)(aF:ay)(aN:Int):Option (ay×(Int)):=eH.tS N x1 x5 aF aN
def eH.mg(N:Nat)(qE:eH.Ar)(gg:eH.fb)(x1:ay)(x5:bn)(aF:ay)(aN:Int):Option (ay×(Int)):=
 cond (aL aN (List.length x1:Int)) (cond (aM aN (List.length x1)) (cond (aL ((List.getD x1 aN.toNat aC).1) x5.1) (gg x1 x5 aF (W .i64 (aN+1))) (qE x1 x5 aF aN)) (none)) (qE x1 x5 aF aN)
def eH.ot(N:Nat):Nat→eH.fb
 |0,_,_,_,_=>none
 |n+1,x1,x5,aF,aN=>eH.mg N (eH.Bi N) (eH.ot N n) x1 x5 aF aN
def eH.zU(N:Nat)(rT:eH.fb)(x1:ay)(x5:bn):Option (ay×(Int)):=
 rT x1 x5 ([]) (0:Int)
def eH.HT(N:Nat)(x1:ay)(x5:bn):Option (ay×(Int)):=eH.zU N (eH.ot N N) x1 x5
def eH.b(N:Nat)(xh:eH.Gp)(a0:ax)(a1:ay)(a2:bn):Option (ay×(Int)):=
 (ko N a0 a1).bind fun r1=>cond (!r1) (some ([],(1:Int))) ((iB N ([a2])).bind fun r2=>cond (!r2) (some ([],(1:Int))) ((jk N a0 a2.2.1).bind fun r3=>cond (aA r3 0) (some ([],(3:Int))) (cond (!aA r3 1) (some ([],(7:Int))) ((jQ N a1 a2.1).bind fun r4=>cond (r4.2) (some ([],(4:Int))) (cond (aA a2.2.2.1 1) ((sK N a1 a2.2.1).bind fun r5=>cond (!aA r5 0) (some ([],(4:Int))) (xh a1 a2)) (xh a1 a2))))))
def eH(N:Nat)(a0:ax)(a1:ay)(a2:bn):Option (ay×(Int)):=eH.b N (eH.HT N) a0 a1 a2
def zj(N:Nat)(a0:ay)(a1:Int):Option (bn×(Bool)):=
 (iB N a0).bind fun r1=>cond (!r1) (some (aC,false)) ((jQ N a0 a1).bind fun r2=>some (r2.1,r2.2))
def PY(N:Nat)(a0:aE)(a1:Int):Option (Bool):=
 (zj N a0.2.2.1.2.1 a1).bind fun r1=>some r1.2
abbrev kf.bQ:=(List (Int))→Int→Option (List (Int))
def kf.dP(N:Nat)(cJ:kf.bQ)(x0:List (Int))(x3:Int):Option (List (Int)):=
 cond (aL 0 x3) (let v2:Int:=W .i64 (x3-1);cond (aM v2 (List.length x0)) (cond (aA (List.getD x0 v2.toNat (0:Int)) (0:Int)) (cJ x0 (W .i64 (x3-1))) (cond (fM 0 x3 x3 (List.length x0:Int)) (some (List.drop (0:Int).toNat (List.take x3.toNat x0))) (none))) (none)) (cond (fM 0 x3 x3 (List.length x0:Int)) (some (List.drop (0:Int).toNat (List.take x3.toNat x0))) (none))
def kf.l2(N:Nat):Nat→kf.bQ
 |0,_,_=>none
 |n+1,x0,x3=>kf.dP N (kf.l2 N n) x0 x3
def kf.b(N:Nat)(eW:kf.bQ)(a0:List (Int)):Option (List (Int)):=
 eW a0 (List.length a0:Int)
def kf(N:Nat)(a0:List (Int)):Option (List (Int)):=kf.b N (kf.l2 N N) a0
def F67(N:Nat)(a0:Int):Option (List (Int)):=
 cond (aL 32 0) (none) ((kf N ([(oY .and .u64 a0 4294967295),(shr .u64 a0 32)])).bind fun r3=>some r3)
def Ol(N:Nat)(a0:Bool)(a1:List (Int)):Option aq:=
 (kf N a1).bind fun r1=>cond (a0) (some (aL 0 (List.length r1:Int),(r1,()))) (some (false,(r1,())))
def fu(N:Nat)(a0:Int):Option aq:=
 let v1:Int:=W .u64 a0;cond (aL a0 0) ((F67 N (W .u64 (0-v1))).bind fun r3=>(Ol N (aL a0 0) r3).bind fun r4=>some r4) ((F67 N v1).bind fun r5=>(Ol N (aL a0 0) r5).bind fun r6=>some r6)
def M9(N:Nat)(a0:aq):Option aq:=
 (Ol N (!a0.1) a0.2.1).bind fun r1=>some r1
def zV(N:Nat)(a0:Int)(a1:Int)(a2:Int)(a3:Int)(a4:aq):Option bl:=
 (M9 N a4).bind fun r1=>some ([(a0,(a1,(r1,()))),(a2,(a3,(a4,())))])
def RP(N:Nat)(a0:List (Int))(a1:Int):Option (Int):=
 cond (aL a1 (List.length a0:Int)) (cond (aM a1 (List.length a0)) (some (List.getD a0 a1.toNat (0:Int))) (none)) (some (0:Int))
abbrev qA.Qi:=(List (Int))→(List (Int))→(List (Int))→Int→Int→Option (List (Int))
abbrev qA.bk:=(List (Int))→(List (Int))→(List (Int))→Int→Int→Option (List (Int))
def qA.M8(N:Nat)(bA:qA.bk)(x0:List (Int))(x1:List (Int))(x5:List (Int))(x6:Int)(x7:Int):Option (List (Int)):=
 (RP N x0 x7).bind fun r3=>(RP N x1 x7).bind fun r4=>let v6:Int:=W .u64 (x6+(W .u64 (r3+r4)));let v7:Int:=oY .and .u64 v6 4294967295;cond (small (List.length x5+List.length ([v7]))) (cond (aL 32 0) (none) (bA x0 x1 (x5++([v7])) (shr .u64 v6 32) (W .i64 (x7+1)))) (none)
def qA.j6(N:Nat)(bA:qA.bk)(x0:List (Int))(x1:List (Int))(x5:List (Int))(x6:Int)(x7:Int):Option (List (Int)):=qA.M8 N bA x0 x1 x5 x6 x7
def qA.cY(N:Nat)(DF:qA.Qi)(bA:qA.bk)(x0:List (Int))(x1:List (Int))(x5:List (Int))(x6:Int)(x7:Int):Option (List (Int)):=
 cond (aL x7 (List.length x0:Int)) (DF x0 x1 x5 x6 x7) (cond (aL x7 (List.length x1:Int)) (DF x0 x1 x5 x6 x7) (cond (aL 0 x6) (DF x0 x1 x5 x6 x7) (some x5)))
def qA.l4(N:Nat):Nat→qA.bk
 |0,_,_,_,_,_=>none
 |n+1,x0,x1,x5,x6,x7=>qA.cY N (qA.j6 N (qA.l4 N n)) (qA.l4 N n) x0 x1 x5 x6 x7
def qA.b(N:Nat)(dG:qA.bk)(a0:List (Int))(a1:List (Int)):Option (List (Int)):=
 dG a0 a1 ([]) (0:Int) (0:Int)
def qA(N:Nat)(a0:List (Int))(a1:List (Int)):Option (List (Int)):=qA.b N (qA.l4 N N) a0 a1
abbrev xD.eX:=(List (Int))→(List (Int))→Int→Option (Int)
def xD.oX(N:Nat)(eS:xD.eX)(x0:List (Int))(x1:List (Int))(x5:Int):Option (Int):=
 cond (bX 0 x5) (cond (aM x5 (List.length x0)) (cond (aM x5 (List.length x1)) (cond (aL (List.getD x0 x5.toNat (0:Int)) (List.getD x1 x5.toNat (0:Int))) (some (-1:Int)) (cond (aM x5 (List.length x0)) (cond (aM x5 (List.length x1)) (cond (aL (List.getD x1 x5.toNat (0:Int)) (List.getD x0 x5.toNat (0:Int))) (some (1:Int)) (eS x0 x1 (W .i64 (x5-1)))) (none)) (none))) (none)) (none)) (some (0:Int))
def xD.l6(N:Nat):Nat→xD.eX
 |0,_,_,_=>none
 |n+1,x0,x1,x5=>xD.oX N (xD.l6 N n) x0 x1 x5
def xD.b(N:Nat)(qq:xD.eX)(a0:List (Int))(a1:List (Int)):Option (Int):=
 cond (!aA (List.length a0:Int) (List.length a1:Int)) (cond (aL (List.length a0:Int) (List.length a1:Int)) (some (-1:Int)) (some (1:Int))) (qq a0 a1 (W .i64 ((List.length a0:Int)-1)))
def xD(N:Nat)(a0:List (Int))(a1:List (Int)):Option (Int):=xD.b N (xD.l6 N N) a0 a1
abbrev ye.bk:=(List (Int))→(List (Int))→(List (Int))→Int→Int→Option (List (Int))
def ye.cY(N:Nat)(bA:ye.bk)(x0:List (Int))(x1:List (Int))(x5:List (Int))(x6:Int)(x7:Int):Option (List (Int)):=
 cond (aL x7 (List.length x0:Int)) (cond (aM x7 (List.length x0)) ((RP N x1 x7).bind fun r2=>let v3:Int:=W .u64 (r2+x6);cond (aL (List.getD x0 x7.toNat (0:Int)) v3) (let v5:Int:=W .u64 ((W .u64 ((List.getD x0 x7.toNat (0:Int))+4294967296))-v3);cond (small (List.length x5+List.length ([v5]))) (bA x0 x1 (x5++([v5])) (1:Int) (W .i64 (x7+1))) (none)) (let v8:Int:=W .u64 ((List.getD x0 x7.toNat (0:Int))-v3);cond (small (List.length x5+List.length ([v8]))) (bA x0 x1 (x5++([v8])) (0:Int) (W .i64 (x7+1))) (none))) (none)) (some x5)
def ye.l4(N:Nat):Nat→ye.bk
 |0,_,_,_,_,_=>none
 |n+1,x0,x1,x5,x6,x7=>ye.cY N (ye.l4 N n) x0 x1 x5 x6 x7
def ye.b(N:Nat)(dG:ye.bk)(a0:List (Int))(a1:List (Int)):Option (List (Int)):=
 dG a0 a1 ([]) (0:Int) (0:Int)
def ye(N:Nat)(a0:List (Int))(a1:List (Int)):Option (List (Int)):=ye.b N (ye.l4 N N) a0 a1
def ub(N:Nat)(a0:aq)(a1:aq):Option aq:=
 cond (qQ .bool a0.1 a1.1) ((qA N a0.2.1 a1.2.1).bind fun r1=>(Ol N a0.1 r1).bind fun r2=>some r2) ((xD N a0.2.1 a1.2.1).bind fun r3=>cond (bX 0 r3) ((ye N a0.2.1 a1.2.1).bind fun r4=>(Ol N a0.1 r4).bind fun r5=>some r5) ((ye N a1.2.1 a0.2.1).bind fun r6=>(Ol N a1.1 r6).bind fun r7=>some r7))
def rz(N:Nat)(a0:aq):Option ((Int)×(Bool)):=
 cond (aL 2 (List.length a0.2.1:Int)) (some ((0:Int),false)) ((RP N a0.2.1 (0:Int)).bind fun r1=>(RP N a0.2.1 (1:Int)).bind fun r2=>cond (aL 32 0) (none) (let v4:Int:=oY .or .u64 r1 (W .u64 (shl .u64 r2 32));cond (a0.1) (cond (aL 9223372036854775808 v4) (some ((0:Int),false)) (some ((W .i64 (W .u64 (0-v4))),true))) (cond (aL 9223372036854775807 v4) (some ((0:Int),false)) (some ((W .i64 v4),true)))))
def Ph(N:Nat)(a0:aq):Option ((Int)×(Bool)):=
 (rz N a0).bind fun r1=>cond (!r1.2) (some ((0:Int),false)) (cond (aA r1.1 (-9223372036854775808)) (some ((0:Int),false)) (some (r1.1,true)))
abbrev bZ.jK:=aj→aj→aj→Int→Int→Int→Int→Bool→aq→Int→Option (aj×(Bool))
abbrev bZ.Qj:=aj→aj→aj→Int→Int→Int→Int→Bool→Option (aj×(Bool))
abbrev bZ.cZ:=aj→aj→aj→Int→Int→Int→Option (aj×(Bool))
abbrev bZ.bk:=aj→aj→aj→Int→Int→Option (aj×(Bool))
def bZ.zR(N:Nat)(bA:bZ.bk)(cK:bZ.cZ)(gJ:bZ.jK)(x0:aj)(x1:aj)(x6:aj)(x7:Int)(x8:Int)(x9:Int)(aQ:Int)(aF:Bool)(aN:aq)(bb:Int):Option (aj×(Bool)):=
 cond (aL bb (List.length x1:Int)) (cond (aM bb (List.length x1)) (cond (aA ((List.getD x1 bb.toNat aZ).1) x8) (cond (aM bb (List.length x1)) (cond (aA (((List.getD x1 bb.toNat aZ).2).1) x9) (cond (aM bb (List.length x1)) ((fu N ((((List.getD x1 bb.toNat aZ).2).2).1)).bind fun r6=>(ub N aN r6).bind fun r7=>gJ x0 x1 x6 x7 x8 x9 aQ true r7 (W .i64 (bb+1))) (none)) (gJ x0 x1 x6 x7 x8 x9 aQ aF aN (W .i64 (bb+1)))) (none)) (gJ x0 x1 x6 x7 x8 x9 aQ aF aN (W .i64 (bb+1)))) (none)) (cond (aF) ((fu N aQ).bind fun lW=>(ub N aN lW).bind fun mK=>(Ph N mK).bind fun lD=>cond (!lD.2) (some ([],false)) (cond (!aA lD.1 0) (cond (small (List.length x6+List.length ([(x8,(x9,(lD.1,())))]))) (cK x0 x1 (x6++([(x8,(x9,(lD.1,())))])) x7 x8 (W .i64 (x9+1))) (none)) (cK x0 x1 x6 x7 x8 (W .i64 (x9+1))))) (cond (!aA aQ 0) (cond (small (List.length x6+List.length ([(x8,(x9,(aQ,())))]))) (cK x0 x1 (x6++([(x8,(x9,(aQ,())))])) x7 x8 (W .i64 (x9+1))) (none)) (cK x0 x1 x6 x7 x8 (W .i64 (x9+1)))))
def bZ.Be(N:Nat)(bA:bZ.bk)(cK:bZ.cZ):Nat→bZ.jK
 |0,_,_,_,_,_,_,_,_,_,_=>none
 |n+1,x0,x1,x6,x7,x8,x9,aQ,aF,aN,bb=>bZ.zR N bA cK (bZ.Be N bA cK n) x0 x1 x6 x7 x8 x9 aQ aF aN bb
def bZ.IZ(N:Nat)(Gq:bZ.jK)(bA:bZ.bk)(cK:bZ.cZ)(x0:aj)(x1:aj)(x6:aj)(x7:Int)(x8:Int)(x9:Int)(aQ:Int)(aF:Bool):Option (aj×(Bool)):=
 Gq x0 x1 x6 x7 x8 x9 aQ aF (false,lS) (0:Int)
def bZ.Pj(N:Nat)(bA:bZ.bk)(cK:bZ.cZ)(x0:aj)(x1:aj)(x6:aj)(x7:Int)(x8:Int)(x9:Int)(aQ:Int)(aF:Bool):Option (aj×(Bool)):=bZ.IZ N (bZ.Be N bA cK N) bA cK x0 x1 x6 x7 x8 x9 aQ aF
def bZ.oe(N:Nat)(vv:bZ.Qj)(bA:bZ.bk)(cK:bZ.cZ)(x0:aj)(x1:aj)(x6:aj)(x7:Int)(x8:Int)(x9:Int):Option (aj×(Bool)):=
 cond (aL x9 6) (cond (aL x7 (List.length x0:Int)) (cond (aM x7 (List.length x0)) (cond (aA ((List.getD x0 x7.toNat aZ).1) x8) (cond (aM x7 (List.length x0)) (cond (aA (((List.getD x0 x7.toNat aZ).2).1) x9) (cond (aM x7 (List.length x0)) (vv x0 x1 x6 (W .i64 (x7+1)) x8 x9 ((((List.getD x0 x7.toNat aZ).2).2).1) false) (none)) (vv x0 x1 x6 x7 x8 x9 (0:Int) false)) (none)) (vv x0 x1 x6 x7 x8 x9 (0:Int) false)) (none)) (vv x0 x1 x6 x7 x8 x9 (0:Int) false)) (bA x0 x1 x6 x7 (W .i64 (x8+1)))
def bZ.l7(N:Nat)(bA:bZ.bk):Nat→bZ.cZ
 |0,_,_,_,_,_,_=>none
 |n+1,x0,x1,x6,x7,x8,x9=>bZ.oe N (bZ.Pj N bA (bZ.l7 N bA n)) bA (bZ.l7 N bA n) x0 x1 x6 x7 x8 x9
def bZ.cY(N:Nat)(oV:bZ.cZ)(bA:bZ.bk)(x0:aj)(x1:aj)(x6:aj)(x7:Int)(x8:Int):Option (aj×(Bool)):=
 cond (bX x8 24) (oV x0 x1 x6 x7 x8 (0:Int)) (some (x6,true))
def bZ.l4(N:Nat):Nat→bZ.bk
 |0,_,_,_,_,_=>none
 |n+1,x0,x1,x6,x7,x8=>bZ.cY N (bZ.l7 N (bZ.l4 N n) N) (bZ.l4 N n) x0 x1 x6 x7 x8
def bZ.b(N:Nat)(dG:bZ.bk)(a0:aj)(a1:aj):Option (aj×(Bool)):=
 dG a0 a1 ([]) (0:Int) (0:Int)
def bZ(N:Nat)(a0:aj)(a1:aj):Option (aj×(Bool)):=bZ.b N (bZ.l4 N N) a0 a1
abbrev oR.cB:=Int→Int→Int→bl→aq→Bool→Int→Option ((Int)×(Bool))
def oR.ji(N:Nat)(ck:oR.cB)(x0:Int)(x1:Int)(x2:Int)(x3:bl)(aQ:aq)(aF:Bool)(aN:Int):Option ((Int)×(Bool)):=
 cond (aL aN (List.length x3:Int)) (cond (aM aN (List.length x3)) (cond (aA ((List.getD x3 aN.toNat ((0:Int),((0:Int),((false,lS),())))).1) x1) (cond (aM aN (List.length x3)) (cond (aA (((List.getD x3 aN.toNat ((0:Int),((0:Int),((false,lS),())))).2).1) x2) (cond (aM aN (List.length x3)) ((ub N aQ ((((List.getD x3 aN.toNat ((0:Int),((0:Int),((false,lS),())))).2).2).1)).bind fun r2=>ck x0 x1 x2 x3 r2 true (W .i64 (aN+1))) (none)) (ck x0 x1 x2 x3 aQ aF (W .i64 (aN+1)))) (none)) (ck x0 x1 x2 x3 aQ aF (W .i64 (aN+1)))) (none)) (cond (!aF) (some (x0,true)) ((fu N x0).bind fun r6=>(ub N aQ r6).bind fun r7=>(rz N r7).bind fun r8=>some (r8.1,r8.2)))
def oR.l3(N:Nat):Nat→oR.cB
 |0,_,_,_,_,_,_,_=>none
 |n+1,x0,x1,x2,x3,aQ,aF,aN=>oR.ji N (oR.l3 N n) x0 x1 x2 x3 aQ aF aN
def oR.b(N:Nat)(jM:oR.cB)(a0:Int)(a1:Int)(a2:Int)(a3:bl):Option ((Int)×(Bool)):=
 jM a0 a1 a2 a3 (false,lS) false (0:Int)
def oR(N:Nat)(a0:Int)(a1:Int)(a2:Int)(a3:bl):Option ((Int)×(Bool)):=oR.b N (oR.l3 N N) a0 a1 a2 a3
abbrev df.Qj:=aj→bl→aj→Int→Int→Int→Int→Option (aj×(Bool))
abbrev df.cZ:=aj→bl→aj→Int→Int→Int→Option (aj×(Bool))
abbrev df.bk:=aj→bl→aj→Int→Int→Option (aj×(Bool))
def df.IZ(N:Nat)(bA:df.bk)(cK:df.cZ)(x0:aj)(x1:bl)(x6:aj)(x7:Int)(x8:Int)(x9:Int)(aQ:Int):Option (aj×(Bool)):=
 (oR N aQ x8 x9 x1).bind fun r5=>cond (!r5.2) (some ([],false)) (cond (!aA r5.1 0) (cond (small (List.length x6+List.length ([(x8,(x9,(r5.1,())))]))) (cK x0 x1 (x6++([(x8,(x9,(r5.1,())))])) x7 x8 (W .i64 (x9+1))) (none)) (cK x0 x1 x6 x7 x8 (W .i64 (x9+1))))
def df.Pj(N:Nat)(bA:df.bk)(cK:df.cZ)(x0:aj)(x1:bl)(x6:aj)(x7:Int)(x8:Int)(x9:Int)(aQ:Int):Option (aj×(Bool)):=df.IZ N bA cK x0 x1 x6 x7 x8 x9 aQ
def df.oe(N:Nat)(vv:df.Qj)(bA:df.bk)(cK:df.cZ)(x0:aj)(x1:bl)(x6:aj)(x7:Int)(x8:Int)(x9:Int):Option (aj×(Bool)):=
 cond (bX x9 24) (cond (aL x7 (List.length x0:Int)) (cond (aM x7 (List.length x0)) (cond (aA ((List.getD x0 x7.toNat aZ).1) x8) (cond (aM x7 (List.length x0)) (cond (aA (((List.getD x0 x7.toNat aZ).2).1) x9) (cond (aM x7 (List.length x0)) (vv x0 x1 x6 (W .i64 (x7+1)) x8 x9 ((((List.getD x0 x7.toNat aZ).2).2).1)) (none)) (vv x0 x1 x6 x7 x8 x9 (0:Int))) (none)) (vv x0 x1 x6 x7 x8 x9 (0:Int))) (none)) (vv x0 x1 x6 x7 x8 x9 (0:Int))) (bA x0 x1 x6 x7 (W .i64 (x8+1)))
def df.l7(N:Nat)(bA:df.bk):Nat→df.cZ
 |0,_,_,_,_,_,_=>none
 |n+1,x0,x1,x6,x7,x8,x9=>df.oe N (df.Pj N bA (df.l7 N bA n)) bA (df.l7 N bA n) x0 x1 x6 x7 x8 x9
def df.cY(N:Nat)(oV:df.cZ)(bA:df.bk)(x0:aj)(x1:bl)(x6:aj)(x7:Int)(x8:Int):Option (aj×(Bool)):=
 cond (bX x8 7) (oV x0 x1 x6 x7 x8 (0:Int)) (some (x6,true))
def df.l4(N:Nat):Nat→df.bk
 |0,_,_,_,_,_=>none
 |n+1,x0,x1,x6,x7,x8=>df.cY N (df.l7 N (df.l4 N n) N) (df.l4 N n) x0 x1 x6 x7 x8
def df.b(N:Nat)(dG:df.bk)(a0:aj)(a1:bl):Option (aj×(Bool)):=
 dG a0 a1 ([]) (0:Int) (1:Int)
def df(N:Nat)(a0:aj)(a1:bl):Option (aj×(Bool)):=df.b N (df.l4 N N) a0 a1
def zS(N:Nat)(a0:ag)(a1:aj)(a2:bl):Option (ag×(Int)):=
 (bZ N a0.2.2.2.1 a1).bind fun r1=>cond (!r1.2) (some ((aS,(cj,(ba,(ba,(cI,(cL,())))))),(2:Int))) ((df N a0.2.2.1 a2).bind fun r2=>cond (!r2.2) (some ((aS,(cj,(ba,(ba,(cI,(cL,())))))),(2:Int))) (some ((a0.1,(a0.2.1,(r2.1,(r1.1,a0.2.2.2.2)))),(0:Int))))
def MI(N:Nat)(a0:aE)(a1:Int)(a2:Int)(a3:Int)(a4:Int)(a5:Int):Option (aE×cE):=
 (fu N a5).bind fun r1=>(zV N a1 a2 a3 a4 r1).bind fun r2=>(zS N a0.2.2.1 ba r2).bind fun r3=>some ((a0.1,(a0.2.1,(r3.1,a0.2.2.2))),(r3.2,bR))
abbrev ld.bm:=aj→Int→aq→aq→Int→Option aq
def ld.dr(N:Nat)(bh:ld.bm)(x0:aj)(x1:Int)(x4:aq)(x5:aq)(x6:Int):Option aq:=
 cond (aL x6 (List.length x0:Int)) (cond (aM x6 (List.length x0)) (cond (aA (((List.getD x0 x6.toNat aZ).2).1) x1) (cond (aM x6 (List.length x0)) ((fu N ((((List.getD x0 x6.toNat aZ).2).2).1)).bind fun r3=>(ub N x5 r3).bind fun r4=>bh x0 x1 x4 r4 (W .i64 (x6+1))) (none)) (bh x0 x1 x4 x5 (W .i64 (x6+1)))) (none)) (some x5)
def ld.l5(N:Nat):Nat→ld.bm
 |0,_,_,_,_,_=>none
 |n+1,x0,x1,x4,x5,x6=>ld.dr N (ld.l5 N n) x0 x1 x4 x5 x6
def ld.b(N:Nat)(dT:ld.bm)(a0:aj)(a1:Int):Option aq:=
 (ud N a0).bind fun r1=>cond (!r1) (some (false,lS)) (dT a0 a1 (false,lS) (false,lS) (0:Int))
def ld(N:Nat)(a0:aj)(a1:Int):Option aq:=ld.b N (ld.l5 N N) a0 a1
def J8(N:Nat)(a0:aq):Option (Int):=
 cond (aA (List.length a0.2.1:Int) 0) (some (0:Int)) (cond (a0.1) (some (-1:Int)) (some (1:Int)))
abbrev lL.bQ:=aj→Int→Option (Bool)
def lL.dP(N:Nat)(cJ:lL.bQ)(x0:aj)(x3:Int):Option (Bool):=
 cond (aL x3 6) ((ld N x0 x3).bind fun r2=>(J8 N r2).bind fun r3=>cond (!aA r3 0) (some false) (cJ x0 (W .i64 (x3+1)))) ((ud N x0).bind fun r5=>some r5)
def lL.l2(N:Nat):Nat→lL.bQ
 |0,_,_=>none
 |n+1,x0,x3=>lL.dP N (lL.l2 N n) x0 x3
def lL.b(N:Nat)(eW:lL.bQ)(a0:aj):Option (Bool):=
 eW a0 (0:Int)
def lL(N:Nat)(a0:aj):Option (Bool):=lL.b N (lL.l2 N N) a0
def xF(N:Nat)(a0:Int):Option (Bool):=
 cond (bX 1 a0) (some (bX a0 1000000000000)) (some false)
def IB(N:Nat)(a0:eG):Option (Bool):=
 cond (bX 1 a0.1) (cond (bX a0.1 1099511627776) (cond (bX 1 a0.2.1) (cond (bX a0.2.1 24) (cond (bX 0 a0.2.2.1) (cond (aL a0.2.2.1 6) (cond (aA a0.2.2.2.1 1) (cond (bX 1 a0.2.2.2.2.1) (cond (bX a0.2.2.2.2.1 1000000000) ((xF N a0.2.2.2.2.2.1).bind fun r1=>some r1) (some false)) (some false)) (cond (aA a0.2.2.2.1 2) (cond (bX 1 a0.2.2.2.2.1) (cond (bX a0.2.2.2.2.1 1000000000) ((xF N a0.2.2.2.2.2.1).bind fun r2=>some r2) (some false)) (some false)) (some false))) (some false)) (some false)) (some false)) (some false)) (some false)) (some false)
abbrev jj.bk:=a6→Int→Option (Bool)
def jj.cY(N:Nat)(bA:jj.bk)(x0:a6)(x3:Int):Option (Bool):=
 cond (aL x3 (List.length x0:Int)) (cond (aM x3 (List.length x0)) ((IB N (List.getD x0 x3.toNat eD)).bind fun r2=>cond (!r2) (some false) (cond (aL 0 x3) (cond (aM x3 (List.length x0)) (let v3:Int:=W .i64 (x3-1);cond (aM v3 (List.length x0)) (cond (bX ((List.getD x0 x3.toNat eD).1) ((List.getD x0 v3.toNat eD).1)) (some false) (bA x0 (W .i64 (x3+1)))) (none)) (none)) (bA x0 (W .i64 (x3+1))))) (none)) (some true)
def jj.l4(N:Nat):Nat→jj.bk
 |0,_,_=>none
 |n+1,x0,x3=>jj.cY N (jj.l4 N n) x0 x3
def jj.b(N:Nat)(dG:jj.bk)(a0:a6):Option (Bool):=
 cond (aL 32 (List.length a0:Int)) (some false) (dG a0 (0:Int))
def jj(N:Nat)(a0:a6):Option (Bool):=jj.b N (jj.l4 N N) a0
abbrev kY.bm:=aj→aq→aq→Int→Option aq
def kY.dr(N:Nat)(bh:kY.bm)(x0:aj)(x2:aq)(x3:aq)(x4:Int):Option aq:=
 cond (aL x4 (List.length x0:Int)) (cond (aM x4 (List.length x0)) ((fu N ((((List.getD x0 x4.toNat aZ).2).2).1)).bind fun r3=>(ub N x3 r3).bind fun r4=>bh x0 x2 r4 (W .i64 (x4+1))) (none)) (some x3)
def kY.l5(N:Nat):Nat→kY.bm
 |0,_,_,_,_=>none
 |n+1,x0,x2,x3,x4=>kY.dr N (kY.l5 N n) x0 x2 x3 x4
def kY.b(N:Nat)(dT:kY.bm)(a0:aj):Option aq:=
 (vT N a0).bind fun r1=>cond (!r1) (some (false,lS)) (dT a0 (false,lS) (false,lS) (0:Int))
def kY(N:Nat)(a0:aj):Option aq:=kY.b N (kY.l5 N N) a0
def C7(N:Nat)(a0:ag)(a1:Int):Option (Bool):=
 (zj N a0.2.1 a1).bind fun r1=>cond (r1.2) (some true) (some (aA a1 0))
def uW(N:Nat)(a0:ax)(a1:Int):Option (Int):=
 (jP N a0).bind fun r1=>cond (!r1) (some (0:Int)) ((jk N a0 a1).bind fun r2=>some r2)
abbrev bI.nA:=aa→ag→Int→Option (Bool)
abbrev bI.Qk:=aa→ag→Int→Option (Bool)
abbrev bI.fT:=aa→ag→Int→Option (Bool)
abbrev bI.eX:=aa→ag→Int→Option (Bool)
def bI.rG(N:Nat)(Ai:bI.nA)(x2:aa)(x3:ag)(x9:Int):Option (Bool):=
 cond (aL x9 (List.length x3.2.2.2.2.2.1:Int)) (cond (aM x9 (List.length x3.2.2.2.2.2.1)) ((C7 N x3 (((List.getD x3.2.2.2.2.2.1 x9.toNat eD).2).1)).bind fun MU=>cond (!MU) (some false) (cond (aM x9 (List.length x3.2.2.2.2.2.1)) (cond (bX (List.length x2.1:Int) ((((List.getD x3.2.2.2.2.2.1 x9.toNat eD).2).2).1)) (some false) (Ai x2 x3 (W .i64 (x9+1)))) (none))) (none)) (some true)
def bI.sM(N:Nat):Nat→bI.nA
 |0,_,_,_=>none
 |n+1,x2,x3,x9=>bI.rG N (bI.sM N n) x2 x3 x9
def bI.R9(N:Nat)(Aj:bI.nA)(afs:bI.Qk)(x2:aa)(x3:ag)(x8:Int):Option (Bool):=
 cond (aL x8 (List.length x3.2.2.2.2.1:Int)) (cond (aM x8 (List.length x3.2.2.2.2.1)) ((xF N (List.getD x3.2.2.2.2.1 x8.toNat (0:Int))).bind fun AI=>cond (!AI) (some false) (afs x2 x3 (W .i64 (x8+1)))) (none)) (Aj x2 x3 (0:Int))
def bI.R8(N:Nat):Nat→bI.Qk
 |0,_,_,_=>none
 |n+1,x2,x3,x8=>bI.R9 N (bI.sM N N) (bI.R8 N n) x2 x3 x8
def bI.mf(N:Nat)(aft:bI.Qk)(iv:bI.fT)(x2:aa)(x3:ag)(x7:Int):Option (Bool):=
 cond (aL x7 (List.length x3.2.2.2.1:Int)) (cond (aM x7 (List.length x3.2.2.2.1)) ((C7 N x3 ((List.getD x3.2.2.2.1 x7.toNat aZ).1)).bind fun xP=>cond (!xP) (some false) (cond (aM x7 (List.length x3.2.2.2.1)) (cond (bX (List.length x2.1:Int) (((List.getD x3.2.2.2.1 x7.toNat aZ).2).1)) (some false) (iv x2 x3 (W .i64 (x7+1)))) (none))) (none)) (aft x2 x3 (0:Int))
def bI.nE(N:Nat):Nat→bI.fT
 |0,_,_,_=>none
 |n+1,x2,x3,x7=>bI.mf N (bI.R8 N N) (bI.nE N n) x2 x3 x7
def bI.oX(N:Nat)(rU:bI.fT)(eS:bI.eX)(x2:aa)(x3:ag)(x5:Int):Option (Bool):=
 cond (aL x5 (List.length x3.2.2.1:Int)) (cond (aM x5 (List.length x3.2.2.1)) (cond (aA ((List.getD x3.2.2.1 x5.toNat aZ).1) (5:Int)) ((C7 N x3 (((List.getD x3.2.2.1 x5.toNat aZ).2).1)).bind fun r9=>cond (!r9) (some false) (cond (aA ((List.getD x3.2.2.1 x5.toNat aZ).1) (6:Int)) ((uW N x3.1 (((List.getD x3.2.2.1 x5.toNat aZ).2).1)).bind fun jL=>cond (aA jL 0) (some false) (eS x2 x3 (W .i64 (x5+1)))) (cond (aA ((List.getD x3.2.2.1 x5.toNat aZ).1) (7:Int)) ((uW N x3.1 (((List.getD x3.2.2.1 x5.toNat aZ).2).1)).bind fun mK=>cond (aA mK 0) (some false) (eS x2 x3 (W .i64 (x5+1)))) (eS x2 x3 (W .i64 (x5+1)))))) (cond (aA ((List.getD x3.2.2.1 x5.toNat aZ).1) (6:Int)) ((uW N x3.1 (((List.getD x3.2.2.1 x5.toNat aZ).2).1)).bind fun tc=>cond (aA tc 0) (some false) (eS x2 x3 (W .i64 (x5+1)))) (cond (aA ((List.getD x3.2.2.1 x5.toNat aZ).1) (7:Int)) ((uW N x3.1 (((List.getD x3.2.2.1 x5.toNat aZ).2).1)).bind fun tb=>cond (aA tb 0) (some false) (eS x2 x3 (W .i64 (x5+1)))) (eS x2 x3 (W .i64 (x5+1)))))) (none)) (rU x2 x3 (0:Int))
def bI.l6(N:Nat):Nat→bI.eX
 |0,_,_,_=>none
 |n+1,x2,x3,x5=>bI.oX N (bI.nE N N) (bI.l6 N n) x2 x3 x5
def bI.b(N:Nat)(qq:bI.eX)(a0:aa)(a1:ag):Option (Bool):=
 (iK N a0).bind fun r1=>cond (!r1) (some false) ((ko N a1.1 a1.2.1).bind fun r2=>cond (!r2) (some false) ((vT N a1.2.2.1).bind fun r3=>cond (!r3) (some false) ((lL N a1.2.2.2.1).bind fun r4=>cond (!r4) (some false) ((jj N a1.2.2.2.2.2.1).bind fun r5=>cond (!r5) (some false) (cond (!aA (List.length a1.2.2.2.2.1:Int) (List.length a0.1:Int)) (some false) ((kY N a1.2.2.1).bind fun r6=>(J8 N r6).bind fun r7=>cond (!aA r7 0) (some false) (qq a0 a1 (0:Int))))))))
def bI(N:Nat)(a0:aa)(a1:ag):Option (Bool):=bI.b N (bI.l6 N N) a0 a1
def HQ(N:Nat)(a0:aq)(a1:aq):Option aq:=
 (M9 N a1).bind fun r1=>(ub N a0 r1).bind fun r2=>some r2
abbrev s9.bm:=aj→Int→ax→Int→Option ax
def s9.dr(N:Nat)(bh:s9.bm)(x0:aj)(x1:Int)(x5:ax)(x6:Int):Option ax:=
 cond (aL x6 (List.length x0:Int)) (cond (aM x6 (List.length x0)) (cond (aA ((List.getD x0 x6.toNat aZ).1) x1) (cond (aM x6 (List.length x0)) (cond (aM x6 (List.length x0)) (cond (small (List.length x5+List.length ([(((List.getD x0 x6.toNat aZ).2).1,((((List.getD x0 x6.toNat aZ).2).2).1,()))]))) (bh x0 x1 (x5++([(((List.getD x0 x6.toNat aZ).2).1,((((List.getD x0 x6.toNat aZ).2).2).1,()))])) (W .i64 (x6+1))) (none)) (none)) (none)) (bh x0 x1 x5 (W .i64 (x6+1)))) (none)) (some x5)
def s9.l5(N:Nat):Nat→s9.bm
 |0,_,_,_,_=>none
 |n+1,x0,x1,x5,x6=>s9.dr N (s9.l5 N n) x0 x1 x5 x6
def s9.b(N:Nat)(dT:s9.bm)(a0:aj)(a1:Int):Option ax:=
 (ud N a0).bind fun r1=>cond (!r1) (some ([])) (dT a0 a1 ([]) (0:Int))
def s9(N:Nat)(a0:aj)(a1:Int):Option ax:=s9.b N (s9.l5 N N) a0 a1
abbrev eQ.cZ:=a6→Int→aj→Int→cE→Int→Option aj
abbrev eQ.cB:=a6→Int→aj→Int→Option aj
def eQ.oe(N:Nat)(ck:eQ.cB)(cK:eQ.cZ)(x0:a6)(x1:Int)(x5:aj)(x6:Int)(x7:cE)(x8:Int):Option aj:=
 cond (aL x8 (List.length x0:Int)) (cond (aM x8 (List.length x0)) (cond (!aA (((List.getD x0 x8.toNat eD).2).1) x1) (cK x0 x1 x5 x6 x7 (W .i64 (x8+1))) (cond (aM x8 (List.length x0)) (cond (!aA ((((List.getD x0 x8.toNat eD).2).2).1) x6) (cK x0 x1 x5 x6 x7 (W .i64 (x8+1))) (cond (aM x8 (List.length x0)) (cond (aA (((((List.getD x0 x8.toNat eD).2).2).2).1) (1:Int)) (cond (aM x8 (List.length x0)) (cK x0 x1 x5 x6 (x7.1,((W .i64 (x7.2.1+((((((List.getD x0 x8.toNat eD).2).2).2).2).1))),x7.2.2)) (W .i64 (x8+1))) (none)) (cond (aM x8 (List.length x0)) (cK x0 x1 x5 x6 (x7.1,(x7.2.1,((W .i64 (x7.2.2.1+((((((List.getD x0 x8.toNat eD).2).2).2).2).1))),x7.2.2.2))) (W .i64 (x8+1))) (none))) (none))) (none))) (none)) (cond (aL 0 x7.2.1) (cond (small (List.length x5+List.length ([x7]))) (ck x0 x1 (x5++([x7])) (W .i64 (x6+1))) (none)) (cond (aL 0 x7.2.2.1) (cond (small (List.length x5+List.length ([x7]))) (ck x0 x1 (x5++([x7])) (W .i64 (x6+1))) (none)) (ck x0 x1 x5 (W .i64 (x6+1)))))
def eQ.l7(N:Nat)(ck:eQ.cB):Nat→eQ.cZ
 |0,_,_,_,_,_,_=>none
 |n+1,x0,x1,x5,x6,x7,x8=>eQ.oe N ck (eQ.l7 N ck n) x0 x1 x5 x6 x7 x8
def eQ.ji(N:Nat)(oV:eQ.cZ)(ck:eQ.cB)(x0:a6)(x1:Int)(x5:aj)(x6:Int):Option aj:=
 cond (aL x6 6) (oV x0 x1 x5 x6 (x6,bR) (0:Int)) (some x5)
def eQ.l3(N:Nat):Nat→eQ.cB
 |0,_,_,_,_=>none
 |n+1,x0,x1,x5,x6=>eQ.ji N (eQ.l7 N (eQ.l3 N n) N) (eQ.l3 N n) x0 x1 x5 x6
def eQ.b(N:Nat)(jM:eQ.cB)(a0:a6)(a1:Int):Option aj:=
 jM a0 a1 ([]) (0:Int)
def eQ(N:Nat)(a0:a6)(a1:Int):Option aj:=eQ.b N (eQ.l3 N N) a0 a1
abbrev jE.bk:=ax→aa→Int→Option (Bool)
def jE.cY(N:Nat)(bA:jE.bk)(x1:ax)(x2:aa)(x5:Int):Option (Bool):=
 cond (aL x5 (List.length x1:Int)) (cond (aM x5 (List.length x1)) (cond (aL ((List.getD x1 x5.toNat bR).1) (0:Int)) (some false) (cond (aM x5 (List.length x1)) (cond (bX (List.length x2.1:Int) ((List.getD x1 x5.toNat bR).1)) (some false) (cond (aM x5 (List.length x1)) (cond (aA (((List.getD x1 x5.toNat bR).2).1) (0:Int)) (some false) (cond (aM x5 (List.length x1)) (cond (aA (((List.getD x1 x5.toNat bR).2).1) (-9223372036854775808:Int)) (some false) (cond (aL 0 x5) (cond (aM x5 (List.length x1)) (let v3:Int:=W .i64 (x5-1);cond (aM v3 (List.length x1)) (cond (bX ((List.getD x1 x5.toNat bR).1) ((List.getD x1 v3.toNat bR).1)) (some false) (bA x1 x2 (W .i64 (x5+1)))) (none)) (none)) (bA x1 x2 (W .i64 (x5+1))))) (none))) (none))) (none))) (none)) (some true)
def jE.l4(N:Nat):Nat→jE.bk
 |0,_,_,_=>none
 |n+1,x1,x2,x5=>jE.cY N (jE.l4 N n) x1 x2 x5
def jE.b(N:Nat)(dG:jE.bk)(a0:aa)(a1:ax):Option (Bool):=
 (iK N a0).bind fun r1=>cond (!r1) (some false) (dG a1 a0 (0:Int))
def jE(N:Nat)(a0:aa)(a1:ax):Option (Bool):=jE.b N (jE.l4 N N) a0 a1
abbrev mm.bm:=aj→aa→Int→Int→Option (Bool)
def mm.dr(N:Nat)(bh:mm.bm)(x1:aj)(x2:aa)(x5:Int)(x6:Int):Option (Bool):=
 cond (aL x6 (List.length x1:Int)) (cond (aM x6 (List.length x1)) (cond (aL ((List.getD x1 x6.toNat aZ).1) (0:Int)) (some false) (cond (bX (List.length x2.1:Int) ((List.getD x1 x6.toNat aZ).1)) (some false) (cond (aL (((List.getD x1 x6.toNat aZ).2).1) (0:Int)) (some false) (cond (aL x5 (((List.getD x1 x6.toNat aZ).2).1)) (some false) (cond (aL ((((List.getD x1 x6.toNat aZ).2).2).1) (0:Int)) (some false) (cond (aL x5 ((((List.getD x1 x6.toNat aZ).2).2).1)) (some false) (cond (aA (((List.getD x1 x6.toNat aZ).2).1) (0:Int)) (cond (aA ((((List.getD x1 x6.toNat aZ).2).2).1) (0:Int)) (some false) (cond (aL 0 x6) (let v3:Int:=W .i64 (x6-1);cond (aM v3 (List.length x1)) (cond (bX ((List.getD x1 x6.toNat aZ).1) ((List.getD x1 v3.toNat aZ).1)) (some false) (bh x1 x2 x5 (W .i64 (x6+1)))) (none)) (bh x1 x2 x5 (W .i64 (x6+1))))) (cond (aL 0 x6) (let v6:Int:=W .i64 (x6-1);cond (aM v6 (List.length x1)) (cond (bX ((List.getD x1 x6.toNat aZ).1) ((List.getD x1 v6.toNat aZ).1)) (some false) (bh x1 x2 x5 (W .i64 (x6+1)))) (none)) (bh x1 x2 x5 (W .i64 (x6+1))))))))))) (none)) (some true)
def mm.l5(N:Nat):Nat→mm.bm
 |0,_,_,_,_=>none
 |n+1,x1,x2,x5,x6=>mm.dr N (mm.l5 N n) x1 x2 x5 x6
def mm.b(N:Nat)(dT:mm.bm)(a0:aa)(a1:aj):Option (Bool):=
 (iK N a0).bind fun r1=>cond (!r1) (some false) (dT a1 a0 (33000000000:Int) (0:Int))
def mm(N:Nat)(a0:aa)(a1:aj):Option (Bool):=mm.b N (mm.l5 N N) a0 a1
def On(N:Nat)(a0:aq):Option aq:=
 (Ol N false a0.2.1).bind fun r1=>some r1
def CY(N:Nat)(a0:aq)(a1:aq):Option (Int):=
 (HQ N a0 a1).bind fun r1=>(J8 N r1).bind fun r2=>some r2
abbrev fJ.fT:=aj→Int→aq→aq→aq→aq→Int→Option (aq×(Int))
abbrev fJ.cZ:=ax→aj→Int→aq→aq→aq→aq→Int→Option (aq×(Int))
def fJ.mf(N:Nat)(iv:fJ.fT)(x2:aj)(x3:Int)(x8:aq)(aQ:aq)(aF:aq)(aN:aq)(bs:Int):Option (aq×(Int)):=
 cond (aL bs (List.length x2:Int)) (cond (aM bs (List.length x2)) (cond (aA ((List.getD x2 bs.toNat aZ).1) x3) (cond (aM bs (List.length x2)) ((fu N (((List.getD x2 bs.toNat aZ).2).1)).bind fun r8=>cond (aM bs (List.length x2)) ((fu N ((((List.getD x2 bs.toNat aZ).2).2).1)).bind fun r9=>iv x2 x3 x8 aQ r8 r9 (W .i64 (bs+1))) (none)) (none)) (iv x2 x3 x8 aQ aF aN (W .i64 (bs+1)))) (none)) ((ub N aQ aF).bind fun mK=>(On N mK).bind fun lD=>(HQ N aQ aN).bind fun sP=>(On N sP).bind fun tc=>(CY N tc lD).bind fun wi=>cond (aL 0 wi) (some (tc,(0:Int))) (some (lD,(0:Int))))
def fJ.nE(N:Nat):Nat→fJ.fT
 |0,_,_,_,_,_,_,_=>none
 |n+1,x2,x3,x8,aQ,aF,aN,bs=>fJ.mf N (fJ.nE N n) x2 x3 x8 aQ aF aN bs
def fJ.oe(N:Nat)(rU:fJ.fT)(cK:fJ.cZ)(x1:ax)(x2:aj)(x3:Int)(x8:aq)(aQ:aq)(aF:aq)(aN:aq)(bb:Int):Option (aq×(Int)):=
 cond (aL bb (List.length x1:Int)) (cond (aM bb (List.length x1)) (cond (aA ((List.getD x1 bb.toNat bR).1) x3) (cond (aM bb (List.length x1)) ((fu N (((List.getD x1 bb.toNat bR).2).1)).bind fun r4=>cK x1 x2 x3 x8 r4 aF aN (W .i64 (bb+1))) (none)) (cK x1 x2 x3 x8 aQ aF aN (W .i64 (bb+1)))) (none)) (rU x2 x3 x8 aQ aF aN (0:Int))
def fJ.l7(N:Nat):Nat→fJ.cZ
 |0,_,_,_,_,_,_,_,_=>none
 |n+1,x1,x2,x3,x8,aQ,aF,aN,bb=>fJ.oe N (fJ.nE N N) (fJ.l7 N n) x1 x2 x3 x8 aQ aF aN bb
def fJ.b(N:Nat)(oV:fJ.cZ)(a0:aa)(a1:ax)(a2:aj)(a3:Int):Option (aq×(Int)):=
 (jE N a0 a1).bind fun r1=>cond (!r1) (some ((false,lS),(1:Int))) ((mm N a0 a2).bind fun r2=>cond (!r2) (some ((false,lS),(1:Int))) (cond (aL a3 0) (some ((false,lS),(3:Int))) (cond (bX (List.length a0.1:Int) a3) (some ((false,lS),(3:Int))) (oV a1 a2 a3 (false,lS) (false,lS) (false,lS) (false,lS) (0:Int)))))
def fJ(N:Nat)(a0:aa)(a1:ax)(a2:aj)(a3:Int):Option (aq×(Int)):=fJ.b N (fJ.l7 N N) a0 a1 a2 a3
abbrev gj.Jp:=aq→aq→aq→(List (Int))→Int→Int→Int→Option aq
abbrev gj.cZ:=aq→aq→aq→(List (Int))→Int→Int→Int→Option aq
abbrev gj.cB:=aq→aq→aq→(List (Int))→Int→Option aq
def gj.Is(N:Nat)(ck:gj.cB)(cK:gj.cZ)(x2:aq)(x3:aq)(x4:aq)(x5:List (Int))(x6:Int)(x7:Int)(x8:Int):Option aq:=
 let v7:Int:=W .i64 (x6+x8);cond (aM v7 (List.length x5)) (cond (aM x6 (List.length x2.2.1)) ((RP N x3.2.1 x8).bind fun r8=>let v11:Int:=W .u64 (x7+(W .u64 ((List.getD x5 v7.toNat (0:Int))+(W .u64 ((List.getD x2.2.1 x6.toNat (0:Int))*r8)))));let MS:Int:=W .i64 (x6+x8);cond (aM MS (List.length x5)) (cond (aL 32 0) (none) (cK x2 x3 x4 (List.set x5 MS.toNat (oY .and .u64 v11 4294967295)) x6 (shr .u64 v11 32) (W .i64 (x8+1)))) (none)) (none)) (none)
def gj.j9(N:Nat)(ck:gj.cB)(cK:gj.cZ)(x2:aq)(x3:aq)(x4:aq)(x5:List (Int))(x6:Int)(x7:Int)(x8:Int):Option aq:=gj.Is N ck cK x2 x3 x4 x5 x6 x7 x8
def gj.oe(N:Nat)(Ap:gj.Jp)(ck:gj.cB)(cK:gj.cZ)(x2:aq)(x3:aq)(x4:aq)(x5:List (Int))(x6:Int)(x7:Int)(x8:Int):Option aq:=
 cond (aL x8 (List.length x3.2.1:Int)) (Ap x2 x3 x4 x5 x6 x7 x8) (cond (aL 0 x7) (Ap x2 x3 x4 x5 x6 x7 x8) (ck x2 x3 x4 x5 (W .i64 (x6+1))))
def gj.l7(N:Nat)(ck:gj.cB):Nat→gj.cZ
 |0,_,_,_,_,_,_,_=>none
 |n+1,x2,x3,x4,x5,x6,x7,x8=>gj.oe N (gj.j9 N ck (gj.l7 N ck n)) ck (gj.l7 N ck n) x2 x3 x4 x5 x6 x7 x8
def gj.ji(N:Nat)(oV:gj.cZ)(ck:gj.cB)(x2:aq)(x3:aq)(x4:aq)(x5:List (Int))(x6:Int):Option aq:=
 cond (aL x6 (List.length x2.2.1:Int)) (oV x2 x3 x4 x5 x6 (0:Int) (0:Int)) ((Ol N (!(qQ .bool x2.1 x3.1)) x5).bind fun ug=>some ug)
def gj.l3(N:Nat):Nat→gj.cB
 |0,_,_,_,_,_=>none
 |n+1,x2,x3,x4,x5,x6=>gj.ji N (gj.l7 N (gj.l3 N n) N) (gj.l3 N n) x2 x3 x4 x5 x6
def gj.b(N:Nat)(jM:gj.cB)(a0:aq)(a1:aq):Option aq:=
 let v2:Int:=W .i64 ((W .i64 ((List.length a0.2.1:Int)+(List.length a1.2.1:Int)))+1);cond (gm v2 v2) (jM a0 a1 (false,lS) (List.replicate v2.toNat (0:Int)) (0:Int)) (none)
def gj(N:Nat)(a0:aq)(a1:aq):Option aq:=gj.b N (gj.l3 N N) a0 a1
abbrev mo.bm:=ax→aj→aa→aq→aq→Int→Option (aq×(Int))
def mo.dr(N:Nat)(bh:mo.bm)(x1:ax)(x2:aj)(x3:aa)(x6:aq)(x8:aq)(x9:Int):Option (aq×(Int)):=
 cond (aL x9 (List.length x3.1:Int)) ((fJ N x3 x1 x2 x9).bind fun r4=>cond (aM x9 (List.length x3.1)) ((fu N ((((List.getD x3.1 x9.toNat aC).2).2).1)).bind fun r5=>(gj N r4.1 r5).bind fun r6=>(ub N x8 r6).bind fun r7=>bh x1 x2 x3 x6 r7 (W .i64 (x9+1))) (none)) (some (x8,(0:Int)))
def mo.l5(N:Nat):Nat→mo.bm
 |0,_,_,_,_,_,_=>none
 |n+1,x1,x2,x3,x6,x8,x9=>mo.dr N (mo.l5 N n) x1 x2 x3 x6 x8 x9
def mo.b(N:Nat)(dT:mo.bm)(a0:aa)(a1:ax)(a2:aj):Option (aq×(Int)):=
 (jE N a0 a1).bind fun r1=>cond (!r1) (some ((false,lS),(1:Int))) ((mm N a0 a2).bind fun r2=>cond (!r2) (some ((false,lS),(1:Int))) (dT a1 a2 a0 (false,lS) (false,lS) (0:Int)))
def mo(N:Nat)(a0:aa)(a1:ax)(a2:aj):Option (aq×(Int)):=mo.b N (mo.l5 N N) a0 a1 a2
def Pm(N:Nat)(a0:aa)(a1:ag)(a2:Int)(a3:a6):Option aq:=
 cond (small (List.length cL+List.length a1.2.2.2.2.2.1)) (let v1:List ((Int)×((Int)×((Int)×((Int)×((Int)×((Int)×(Unit))))))):=cL++a1.2.2.2.2.2.1;cond (small (List.length v1+List.length a3)) ((s9 N a1.2.2.2.1 a2).bind fun r3=>(eQ N (v1++a3) a2).bind fun r4=>(mo N a0 r3 r4).bind fun r5=>some r5.1) (none)) (none)
def SQ(N:Nat)(a0:aa)(a1:ag)(a2:Int)(a3:Int):Option (ag×(Int)):=
 (bI N a0 a1).bind fun r1=>cond (!r1) (some ((aS,(cj,(ba,(ba,(cI,(cL,())))))),(1:Int))) (cond (aL a3 1) (some ((aS,(cj,(ba,(ba,(cI,(cL,())))))),(1:Int))) ((zj N a1.2.1 a2).bind fun r2=>cond (!r2.2) (some ((aS,(cj,(ba,(ba,(cI,(cL,())))))),(3:Int))) ((uW N a1.1 r2.1.2.1).bind fun r3=>cond (!aA r3 1) (some ((aS,(cj,(ba,(ba,(cI,(cL,())))))),(7:Int))) ((ov N a1.2.2.1 (5:Int) a2).bind fun r4=>(fu N r4).bind fun r5=>(fu N a3).bind fun r6=>(HQ N r5 r6).bind fun r7=>(Pm N a0 a1 a2 cL).bind fun r8=>(CY N r7 r8).bind fun r9=>cond (aL r9 0) (some ((aS,(cj,(ba,(ba,(cI,(cL,())))))),(10:Int))) ((fu N a3).bind fun jL=>(zV N (5:Int) a2 (1:Int) (0:Int) jL).bind fun lW=>(zS N a1 ba lW).bind fun mK=>some (mK.1,mK.2))))))
def Dy(N:Nat)(a0:aE)(a1:Int):Option (Int):=
 (uW N a0.2.2.1.1 a1).bind fun r1=>some r1
abbrev nf.fL:=Int→Int→ay→Int→Option (ay×(Int))
def nf.yh(N:Nat)(dI:nf.fL)(x1:Int)(x2:Int)(aQ:ay)(aF:Int):Option (ay×(Int)):=
 cond (aL aF (List.length aQ:Int)) (cond (aM aF (List.length aQ)) (cond (aA ((List.getD aQ aF.toNat aC).1) x1) (cond (aM aF (List.length aQ)) (dI x1 x2 (List.set aQ aF.toNat ((List.getD aQ aF.toNat aC).1,(((List.getD aQ aF.toNat aC).2).1,((((List.getD aQ aF.toNat aC).2).2).1,(x2,((((List.getD aQ aF.toNat aC).2).2).2).2))))) (W .i64 (aF+1))) (none)) (dI x1 x2 aQ (W .i64 (aF+1)))) (none)) (some (aQ,(0:Int)))
def nf.l8(N:Nat):Nat→nf.fL
 |0,_,_,_,_=>none
 |n+1,x1,x2,aQ,aF=>nf.yh N (nf.l8 N n) x1 x2 aQ aF
def nf.b(N:Nat)(Aq:nf.fL)(a0:ay)(a1:Int)(a2:Int):Option (ay×(Int)):=
 (iB N a0).bind fun r1=>cond (!r1) (some ([],(1:Int))) (cond (aL a2 0) (some ([],(1:Int))) (cond (aL 1000000000000 a2) (some ([],(1:Int))) ((jQ N a0 a1).bind fun r2=>cond (!r2.2) (some ([],(3:Int))) (cond (small (List.length cj+List.length a0)) (Aq a1 a2 (cj++a0) (0:Int)) (none)))))
def nf(N:Nat)(a0:ay)(a1:Int)(a2:Int):Option (ay×(Int)):=nf.b N (nf.l8 N N) a0 a1 a2
def SD(N:Nat)(a0:eG)(a1:Int):Option (aq×(Int)):=
 (IB N a0).bind fun r1=>cond (!r1) (some ((false,lS),(1:Int))) ((xF N a1).bind fun r2=>cond (!r2) (some ((false,lS),(1:Int))) (let v3:Int:=W .i64 (a0.2.2.2.2.2.1-a1);cond (aA a0.2.2.2.1 2) (let v4:Int:=W .i64 (a1-a0.2.2.2.2.2.1);cond (aL v4 0) (some ((false,lS),(0:Int))) ((fu N a0.2.2.2.2.1).bind fun r5=>(fu N v4).bind fun r6=>(gj N r5 r6).bind fun r7=>some (r7,(0:Int)))) (cond (aL v3 0) (some ((false,lS),(0:Int))) ((fu N a0.2.2.2.2.1).bind fun r8=>(fu N v3).bind fun r9=>(gj N r8 r9).bind fun jL=>some (jL,(0:Int))))))
def Pn(N:Nat)(a0:aa)(a1:ag)(a2:eG):Option (Int):=
 (bI N a0 a1).bind fun r1=>cond (!r1) (some (1:Int)) ((IB N a2).bind fun r2=>cond (!r2) (some (1:Int)) ((zj N a1.2.1 a2.2.1).bind fun r3=>cond (!r3.2) (some (3:Int)) ((uW N a1.1 r3.1.2.1).bind fun r4=>cond (!aA r4 1) (some (7:Int)) (cond (bX (List.length a0.1:Int) a2.2.2.1) (some (3:Int)) (cond (small (List.length cL+List.length a1.2.2.2.2.2.1)) (let v5:List ((Int)×((Int)×((Int)×((Int)×((Int)×((Int)×(Unit))))))):=cL++a1.2.2.2.2.2.1;cond (small (List.length v5+List.length ([a2]))) ((s9 N a1.2.2.2.1 a2.2.1).bind fun r7=>(eQ N (v5++([a2])) a2.2.1).bind fun r8=>(fJ N a0 r7 r8 a2.2.2.1).bind fun r9=>(fu N r3.1.2.2.2.1).bind fun jL=>(CY N r9.1 jL).bind fun lW=>cond (aL 0 lW) (some (9:Int)) (cond (aM a2.2.2.1 (List.length a1.2.2.2.2.1)) ((SD N a2 (List.getD a1.2.2.2.2.1 a2.2.2.1.toNat (0:Int))).bind fun mK=>(ov N a1.2.2.1 (5:Int) a2.2.1).bind fun lD=>(fu N lD).bind fun sP=>(HQ N sP mK.1).bind fun tc=>(Pm N a0 a1 a2.2.1 ([a2])).bind fun wi=>(CY N tc wi).bind fun tb=>cond (aL tb 0) (some (10:Int)) (some (0:Int))) (none))) (none)) (none))))))
def SN(N:Nat)(a0:eG)(a1:eG):Option (Bool):=
 cond (!aA a0.2.2.2.2.2.1 a1.2.2.2.2.2.1) (some (qQ .bool (aL a1.2.2.2.2.2.1 a0.2.2.2.2.2.1) (aA a0.2.2.2.1 1))) (some (aL a0.1 a1.1))
abbrev dg.Gp:=a6→Int→Int→a6→Int→Int→Option a6
abbrev dg.iS:=a6→Int→Int→a6→Int→Int→Option a6
abbrev dg.bm:=a6→Int→Int→a6→Int→Option a6
def dg.zU(N:Nat)(bh:dg.bm)(x0:a6)(x1:Int)(x2:Int)(x7:a6)(x8:Int)(x9:Int):Option a6:=
 cond (fM 0 x9 (List.length x7:Int) (List.length x7:Int)) (let v9:List ((Int)×((Int)×((Int)×((Int)×((Int)×((Int)×(Unit))))))):=List.drop (0:Int).toNat (List.take x9.toNat x7);cond (small (List.length v9)) (cond (aM x8 (List.length x0)) (cond (small (List.length v9+List.length ([List.getD x0 x8.toNat eD]))) (let v10:List ((Int)×((Int)×((Int)×((Int)×((Int)×((Int)×(Unit))))))):=v9++([List.getD x0 x8.toNat eD]);cond (fM x9 (List.length x7:Int) (List.length x7:Int) (List.length x7:Int)) (let v11:List ((Int)×((Int)×((Int)×((Int)×((Int)×((Int)×(Unit))))))):=List.drop x9.toNat (List.take (List.length x7:Int).toNat x7);cond (small (List.length v10+List.length v11)) (bh x0 x1 x2 (v10++v11) (W .i64 (x8+1))) (none)) (none)) (none)) (none)) (none)) (none)
def dg.HT(N:Nat)(bh:dg.bm)(x0:a6)(x1:Int)(x2:Int)(x7:a6)(x8:Int)(x9:Int):Option a6:=dg.zU N bh x0 x1 x2 x7 x8 x9
def dg.s0(N:Nat)(xh:dg.Gp)(bh:dg.bm)(nC:dg.iS)(x0:a6)(x1:Int)(x2:Int)(x7:a6)(x8:Int)(x9:Int):Option a6:=
 cond (aL x9 (List.length x7:Int)) (cond (aM x9 (List.length x7)) (cond (aM x8 (List.length x0)) ((SN N (List.getD x7 x9.toNat eD) (List.getD x0 x8.toNat eD)).bind fun r6=>cond (r6) (nC x0 x1 x2 x7 x8 (W .i64 (x9+1))) (xh x0 x1 x2 x7 x8 x9)) (none)) (none)) (xh x0 x1 x2 x7 x8 x9)
def dg.l9(N:Nat)(bh:dg.bm):Nat→dg.iS
 |0,_,_,_,_,_,_=>none
 |n+1,x0,x1,x2,x7,x8,x9=>dg.s0 N (dg.HT N bh) bh (dg.l9 N bh n) x0 x1 x2 x7 x8 x9
def dg.dr(N:Nat)(tW:dg.iS)(bh:dg.bm)(x0:a6)(x1:Int)(x2:Int)(x7:a6)(x8:Int):Option a6:=
 cond (aL x8 (List.length x0:Int)) (cond (aM x8 (List.length x0)) (cond (!aA ((((List.getD x0 x8.toNat eD).2).2).1) x1) (bh x0 x1 x2 x7 (W .i64 (x8+1))) (cond (aM x8 (List.length x0)) (cond (!aA (((((List.getD x0 x8.toNat eD).2).2).2).1) x2) (bh x0 x1 x2 x7 (W .i64 (x8+1))) (tW x0 x1 x2 x7 x8 (0:Int))) (none))) (none)) (some x7)
def dg.l5(N:Nat):Nat→dg.bm
 |0,_,_,_,_,_=>none
 |n+1,x0,x1,x2,x7,x8=>dg.dr N (dg.l9 N (dg.l5 N n) N) (dg.l5 N n) x0 x1 x2 x7 x8
def dg.b(N:Nat)(dT:dg.bm)(a0:a6)(a1:Int)(a2:Int):Option a6:=
 (jj N a0).bind fun r1=>cond (!r1) (some ([])) (dT a0 a1 a2 ([]) (0:Int))
def dg(N:Nat)(a0:a6)(a1:Int)(a2:Int):Option a6:=dg.b N (dg.l5 N N) a0 a1 a2
abbrev bP.rV:=a6→Int→bg→a6→Int→Option (a6×bg×(Int)×(Int))
abbrev bP.afu:=a6→Int→bg→Option (a6×bg×(Int)×(Int))
abbrev bP.nB:=eG→a6→Int→bg→a6→Int→Int→Int→Option (a6×bg×(Int)×(Int))
abbrev bP.Ar:=eG→a6→Int→bg→a6→Int→Int→qO→Option (a6×bg×(Int)×(Int))
abbrev bP.Ql:=eG→a6→Int→bg→a6→Int→Option (a6×bg×(Int)×(Int))
abbrev bP.cZ:=eG→a6→Int→bg→a6→Int→Option (a6×bg×(Int)×(Int))
def bP.I5(N:Nat)(qF:bP.rV)(x8:a6)(x9:Int)(aQ:bg)(cv:a6)(cw:Int):Option (a6×bg×(Int)×(Int)):=
 cond (aL cw (List.length x8:Int)) (cond (aM cw (List.length x8)) (cond (aL 0 ((((((List.getD x8 cw.toNat eD).2).2).2).2).1)) (cond (aM cw (List.length x8)) (cond (small (List.length cv+List.length ([List.getD x8 cw.toNat eD]))) (qF x8 x9 aQ (cv++([List.getD x8 cw.toNat eD])) (W .i64 (cw+1))) (none)) (none)) (qF x8 x9 aQ cv (W .i64 (cw+1)))) (none)) (some (cv,aQ,x9,(0:Int)))
def bP.HU(N:Nat):Nat→bP.rV
 |0,_,_,_,_,_=>none
 |n+1,x8,x9,aQ,cv,cw=>bP.I5 N (bP.HU N n) x8 x9 aQ cv cw
def bP.ZL(N:Nat)(Qm:bP.rV)(x8:a6)(x9:Int)(aQ:bg):Option (a6×bg×(Int)×(Int)):=
 Qm x8 x9 aQ ([]) (0:Int)
def bP.j22(N:Nat)(x8:a6)(x9:Int)(aQ:bg):Option (a6×bg×(Int)×(Int)):=bP.ZL N (bP.HU N N) x8 x9 aQ
def bP.sO(N:Nat)(cK:bP.cZ)(vu:bP.nB)(x3:eG)(x8:a6)(x9:Int)(aQ:bg)(aF:a6)(aN:Int)(bb:Int)(bz:Int):Option (a6×bg×(Int)×(Int)):=
 cond (aL bz (List.length x8:Int)) (cond (aM bz (List.length x8)) (cond (aM aN (List.length aF)) (cond (aA ((List.getD x8 bz.toNat eD).1) ((List.getD aF aN.toNat eD).1)) (cond (aM bz (List.length x8)) (cond (aM bz (List.length x8)) (vu x3 (List.set x8 bz.toNat ((List.getD x8 bz.toNat eD).1,(((List.getD x8 bz.toNat eD).2).1,((((List.getD x8 bz.toNat eD).2).2).1,(((((List.getD x8 bz.toNat eD).2).2).2).1,((W .i64 (((((((List.getD x8 bz.toNat eD).2).2).2).2).1)-bb)),(((((List.getD x8 bz.toNat eD).2).2).2).2).2)))))) x9 aQ aF aN bb (W .i64 (bz+1))) (none)) (none)) (vu x3 x8 x9 aQ aF aN bb (W .i64 (bz+1)))) (none)) (none)) (cK x3 x8 x9 aQ aF (W .i64 (aN+1)))
def bP.vi(N:Nat)(cK:bP.cZ):Nat→bP.nB
 |0,_,_,_,_,_,_,_,_=>none
 |n+1,x3,x8,x9,aQ,aF,aN,bb,bz=>bP.sO N cK (bP.vi N cK n) x3 x8 x9 aQ aF aN bb bz
def bP.tS(N:Nat)(Ao:bP.nB)(cK:bP.cZ)(x3:eG)(x8:a6)(x9:Int)(aQ:bg)(aF:a6)(aN:Int)(bb:Int)(bs:qO):Option (a6×bg×(Int)×(Int)):=
 cond (small (List.length aQ+List.length ([bs]))) (Ao x3 x8 (W .i64 (x9-bb)) (aQ++([bs])) aF aN bb (0:Int)) (none)
def bP.Bi(N:Nat)(cK:bP.cZ)(x3:eG)(x8:a6)(x9:Int)(aQ:bg)(aF:a6)(aN:Int)(bb:Int)(bs:qO):Option (a6×bg×(Int)×(Int)):=bP.tS N (bP.vi N cK N) cK x3 x8 x9 aQ aF aN bb bs
def bP.I6(N:Nat)(qE:bP.Ar)(cK:bP.cZ)(x3:eG)(x8:a6)(x9:Int)(aQ:bg)(aF:a6)(aN:Int):Option (a6×bg×(Int)×(Int)):=
 cond (aM aN (List.length aF)) (cond (aA (((List.getD aF aN.toNat eD).2).1) x3.2.1) (cK x3 x8 x9 aQ aF (W .i64 (aN+1))) (cond (aM aN (List.length aF)) (let Z4:Int:=mn x9 ((((((List.getD aF aN.toNat eD).2).2).2).2).1);cond (aM aN (List.length aF)) (cond (aM aN (List.length aF)) (cond (aA x3.2.2.2.1 2) (cond (aM aN (List.length aF)) (qE x3 x8 x9 aQ aF aN Z4 (((List.getD aF aN.toNat eD).2).1,(x3.2.1,(x3.2.2.1,(Z4,(((((((List.getD aF aN.toNat eD).2).2).2).2).2).1,())))))) (none)) (qE x3 x8 x9 aQ aF aN Z4 (x3.2.1,(((List.getD aF aN.toNat eD).2).1,(x3.2.2.1,(Z4,(((((((List.getD aF aN.toNat eD).2).2).2).2).2).1,()))))))) (none)) (none)) (none))) (none)
def bP.PB(N:Nat)(cK:bP.cZ)(x3:eG)(x8:a6)(x9:Int)(aQ:bg)(aF:a6)(aN:Int):Option (a6×bg×(Int)×(Int)):=bP.I6 N (bP.Bi N cK) cK x3 x8 x9 aQ aF aN
def bP.oe(N:Nat)(Gr:bP.afu)(As:bP.Ql)(cK:bP.cZ)(x3:eG)(x8:a6)(x9:Int)(aQ:bg)(aF:a6)(aN:Int):Option (a6×bg×(Int)×(Int)):=
 cond (aL aN (List.length aF:Int)) (cond (aL 0 x9) (cond (aA x3.2.2.2.1 1) (cond (aM aN (List.length aF)) (cond (aL x3.2.2.2.2.2.1 (((((((List.getD aF aN.toNat eD).2).2).2).2).2).1)) (Gr x8 x9 aQ) (cond (aA x3.2.2.2.1 2) (cond (aM aN (List.length aF)) (cond (aL (((((((List.getD aF aN.toNat eD).2).2).2).2).2).1) x3.2.2.2.2.2.1) (Gr x8 x9 aQ) (As x3 x8 x9 aQ aF aN)) (none)) (As x3 x8 x9 aQ aF aN))) (none)) (cond (aA x3.2.2.2.1 2) (cond (aM aN (List.length aF)) (cond (aL (((((((List.getD aF aN.toNat eD).2).2).2).2).2).1) x3.2.2.2.2.2.1) (Gr x8 x9 aQ) (As x3 x8 x9 aQ aF aN)) (none)) (As x3 x8 x9 aQ aF aN))) (Gr x8 x9 aQ)) (Gr x8 x9 aQ)
def bP.l7(N:Nat):Nat→bP.cZ
 |0,_,_,_,_,_,_=>none
 |n+1,x3,x8,x9,aQ,aF,aN=>bP.oe N (bP.j22 N) (bP.PB N (bP.l7 N n)) (bP.l7 N n) x3 x8 x9 aQ aF aN
def bP.b(N:Nat)(oV:bP.cZ)(a0:a6)(a1:eG):Option (a6×bg×(Int)×(Int)):=
 (jj N a0).bind fun r1=>cond (!r1) (some ([],[],(0:Int),(1:Int))) ((IB N a1).bind fun r2=>cond (!r2) (some ([],[],(0:Int),(1:Int))) (cond (small (List.length cL+List.length a0)) ((dg N a0 a1.2.2.1 (W .i64 ((3:Int)-a1.2.2.2.1))).bind fun r5=>oV a1 (cL++a0) a1.2.2.2.2.1 ([]) r5 (0:Int)) (none)))
def bP(N:Nat)(a0:a6)(a1:eG):Option (a6×bg×(Int)×(Int)):=bP.b N (bP.l7 N N) a0 a1
def O2(N:Nat)(a0:qO):Option (Bool):=
 cond (bX 0 a0.1) (cond (bX a0.1 24) (cond (bX 0 a0.2.1) (cond (bX a0.2.1 24) (cond (!aA a0.1 a0.2.1) (cond (bX 0 a0.2.2.1) (cond (aL a0.2.2.1 6) (cond (bX 1 a0.2.2.2.1) (cond (bX a0.2.2.2.1 1000000000) ((xF N a0.2.2.2.2.1).bind fun r1=>some r1) (some false)) (some false)) (some false)) (some false)) (some false)) (some false)) (some false)) (some false)) (some false)
def I1(N:Nat)(a0:Int):Option ((Int)×(Int)):=
 cond (aA a0 0) (some ((2:Int),(0:Int))) (some ((5:Int),a0))
def SA(N:Nat)(a0:qO)(a1:Int):Option (bl×(Int)):=
 (O2 N a0).bind fun r1=>cond (!r1) (some ([],(1:Int))) ((xF N a1).bind fun r2=>cond (!r2) (some ([],(1:Int))) ((fu N (W .i64 (a1-a0.2.2.2.2.1))).bind fun r4=>(fu N a0.2.2.2.1).bind fun r5=>(gj N r4 r5).bind fun r6=>(J8 N r6).bind fun r7=>cond (aA r7 0) (some ([],(0:Int))) ((I1 N a0.1).bind fun r8=>(I1 N a0.2.1).bind fun r9=>(M9 N r6).bind fun jL=>some ([(r8.1,(r8.2,(r6,()))),(r9.1,(r9.2,(jL,())))],(0:Int)))))
abbrev fI.fp:=bg→aa→ag→ag→aj→bl→Int→Option (ag×(Int))
abbrev fI.bk:=bg→aa→ag→ag→Int→Option (ag×(Int))
def fI.tR(N:Nat)(dq:fI.fp)(x2:bg)(x3:aa)(x4:ag)(x6:ag)(x9:aj)(aQ:bl)(aF:Int):Option (ag×(Int)):=
 cond (aL aF (List.length x2:Int)) (cond (aM aF (List.length x2)) ((C7 N x4 ((List.getD x2 aF.toNat j1).1)).bind fun r6=>cond (!r6) (some ((aS,(cj,(ba,(ba,(cI,(cL,())))))),(3:Int))) ((C7 N x4 (((List.getD x2 aF.toNat j1).2).1)).bind fun r7=>cond (!r7) (some ((aS,(cj,(ba,(ba,(cI,(cL,())))))),(3:Int))) (cond (bX (List.length x3.1:Int) ((((List.getD x2 aF.toNat j1).2).2).1)) (some ((aS,(cj,(ba,(ba,(cI,(cL,())))))),(3:Int))) (let v8:Int:=W .i64 (0-(((((List.getD x2 aF.toNat j1).2).2).2).1));cond (small (List.length x9+List.length ([((List.getD x2 aF.toNat j1).1,((((List.getD x2 aF.toNat j1).2).2).1,(((((List.getD x2 aF.toNat j1).2).2).2).1,()))),(((List.getD x2 aF.toNat j1).2).1,((((List.getD x2 aF.toNat j1).2).2).1,(v8,())))]))) (cond (aM ((((List.getD x2 aF.toNat j1).2).2).1) (List.length x4.2.2.2.2.1)) ((SA N (List.getD x2 aF.toNat j1) (List.getD x4.2.2.2.2.1 ((((List.getD x2 aF.toNat j1).2).2).1).toNat (0:Int))).bind fun jL=>cond (small (List.length aQ+List.length jL.1)) (dq x2 x3 x4 x6 (x9++([((List.getD x2 aF.toNat j1).1,((((List.getD x2 aF.toNat j1).2).2).1,(((((List.getD x2 aF.toNat j1).2).2).2).1,()))),(((List.getD x2 aF.toNat j1).2).1,((((List.getD x2 aF.toNat j1).2).2).1,(v8,())))])) (aQ++jL.1) (W .i64 (aF+1))) (none)) (none)) (none))))) (none)) ((zS N x4 x9 aQ).bind fun lD=>some (lD.1,lD.2))
def fI.ue(N:Nat):Nat→fI.fp
 |0,_,_,_,_,_,_,_=>none
 |n+1,x2,x3,x4,x6,x9,aQ,aF=>fI.tR N (fI.ue N n) x2 x3 x4 x6 x9 aQ aF
def fI.cY(N:Nat)(Au:fI.fp)(bA:fI.bk)(x2:bg)(x3:aa)(x4:ag)(x6:ag)(x8:Int):Option (ag×(Int)):=
 cond (aL x8 (List.length x2:Int)) (cond (aM x8 (List.length x2)) ((O2 N (List.getD x2 x8.toNat j1)).bind fun r3=>cond (!r3) (some ((aS,(cj,(ba,(ba,(cI,(cL,())))))),(1:Int))) (bA x2 x3 x4 x6 (W .i64 (x8+1)))) (none)) (Au x2 x3 x4 x6 ([]) ([]) (0:Int))
def fI.l4(N:Nat):Nat→fI.bk
 |0,_,_,_,_,_=>none
 |n+1,x2,x3,x4,x6,x8=>fI.cY N (fI.ue N N) (fI.l4 N n) x2 x3 x4 x6 x8
def fI.b(N:Nat)(dG:fI.bk)(a0:aa)(a1:ag)(a2:bg):Option (ag×(Int)):=
 (bI N a0 a1).bind fun r1=>cond (!r1) (some ((aS,(cj,(ba,(ba,(cI,(cL,())))))),(1:Int))) (cond (aL 200 (List.length a2:Int)) (some ((aS,(cj,(ba,(ba,(cI,(cL,())))))),(1:Int))) (dG a2 a0 a1 (aS,(cj,(ba,(ba,(cI,(cL,())))))) (0:Int)))
def fI(N:Nat)(a0:aa)(a1:ag)(a2:bg):Option (ag×(Int)):=fI.b N (fI.l4 N N) a0 a1 a2
abbrev jl.Ql:=aa→ag→eG→ag→a6→bg→Int→Option (ag×bg×(Int)×(Int))
abbrev jl.Z3:=aa→ag→eG→ag→Option (ag×bg×(Int)×(Int))
def jl.I6(N:Nat)(x3:aa)(x4:ag)(x5:eG)(x6:ag)(aN:a6)(bb:bg)(bs:Int):Option (ag×bg×(Int)×(Int)):=
 (fI N x3 x4 bb).bind fun r6=>cond (!aA r6.2 0) (some ((aS,(cj,(ba,(ba,(cI,(cL,())))))),xl,(0:Int),r6.2)) (cond (aL 0 bs) (cond (small (List.length aN+List.length ([(x5.1,(x5.2.1,(x5.2.2.1,(x5.2.2.2.1,(bs,x5.2.2.2.2.2)))))]))) (some ((r6.1.1,(r6.1.2.1,(r6.1.2.2.1,(r6.1.2.2.2.1,(r6.1.2.2.2.2.1,((aN++([(x5.1,(x5.2.1,(x5.2.2.1,(x5.2.2.2.1,(bs,x5.2.2.2.2.2)))))])),r6.1.2.2.2.2.2.2)))))),bb,bs,(0:Int))) (none)) (some ((r6.1.1,(r6.1.2.1,(r6.1.2.2.1,(r6.1.2.2.2.1,(r6.1.2.2.2.2.1,(aN,r6.1.2.2.2.2.2.2)))))),bb,bs,(0:Int))))
def jl.PB(N:Nat)(x3:aa)(x4:ag)(x5:eG)(x6:ag)(aN:a6)(bb:bg)(bs:Int):Option (ag×bg×(Int)×(Int)):=jl.I6 N x3 x4 x5 x6 aN bb bs
def jl.Zn(N:Nat)(As:jl.Ql)(x3:aa)(x4:ag)(x5:eG)(x6:ag):Option (ag×bg×(Int)×(Int)):=
 (bP N x4.2.2.2.2.2.1 x5).bind fun r4=>cond (aL 0 r4.2.2.1) (cond (aA (List.length r4.1:Int) 32) (some ((aS,(cj,(ba,(ba,(cI,(cL,())))))),xl,(0:Int),(5:Int))) (As x3 x4 x5 x6 r4.1 r4.2.1 r4.2.2.1)) (As x3 x4 x5 x6 r4.1 r4.2.1 r4.2.2.1)
def jl.j7(N:Nat)(x3:aa)(x4:ag)(x5:eG)(x6:ag):Option (ag×bg×(Int)×(Int)):=jl.Zn N (jl.PB N) x3 x4 x5 x6
def jl.b(N:Nat)(Jq:jl.Z3)(a0:aa)(a1:ag)(a2:eG):Option (ag×bg×(Int)×(Int)):=
 (Pn N a0 a1 a2).bind fun r1=>cond (!aA r1 0) (some ((aS,(cj,(ba,(ba,(cI,(cL,())))))),xl,(0:Int),r1)) (cond (aL 0 (List.length a1.2.2.2.2.2.1:Int)) (let v2:Int:=W .i64 ((List.length a1.2.2.2.2.2.1:Int)-1);cond (aM v2 (List.length a1.2.2.2.2.2.1)) (cond (bX a2.1 ((List.getD a1.2.2.2.2.2.1 v2.toNat eD).1)) (some ((aS,(cj,(ba,(ba,(cI,(cL,())))))),xl,(0:Int),(1:Int))) (Jq a0 a1 a2 (aS,(cj,(ba,(ba,(cI,(cL,())))))))) (none)) (Jq a0 a1 a2 (aS,(cj,(ba,(ba,(cI,(cL,()))))))))
def jl(N:Nat)(a0:aa)(a1:ag)(a2:eG):Option (ag×bg×(Int)×(Int)):=jl.b N (jl.j7 N) a0 a1 a2
abbrev ni.bm:=a6→Int→Int→a6→Int→Option (a6×(Int))
def ni.dr(N:Nat)(bh:ni.bm)(x0:a6)(x1:Int)(x2:Int)(x8:a6)(x9:Int):Option (a6×(Int)):=
 cond (aL x9 (List.length x0:Int)) (cond (aM x9 (List.length x0)) (cond (!aA ((List.getD x0 x9.toNat eD).1) x2) (cond (aM x9 (List.length x0)) (cond (small (List.length x8+List.length ([List.getD x0 x9.toNat eD]))) (bh x0 x1 x2 (x8++([List.getD x0 x9.toNat eD])) (W .i64 (x9+1))) (none)) (none)) (cond (aM x9 (List.length x0)) (cond (!aA (((List.getD x0 x9.toNat eD).2).1) x1) (cond (aM x9 (List.length x0)) (cond (small (List.length x8+List.length ([List.getD x0 x9.toNat eD]))) (bh x0 x1 x2 (x8++([List.getD x0 x9.toNat eD])) (W .i64 (x9+1))) (none)) (none)) (bh x0 x1 x2 x8 (W .i64 (x9+1)))) (none))) (none)) (cond (aA (List.length x8:Int) (List.length x0:Int)) (some ([],(3:Int))) (some (x8,(0:Int))))
def ni.l5(N:Nat):Nat→ni.bm
 |0,_,_,_,_,_=>none
 |n+1,x0,x1,x2,x8,x9=>ni.dr N (ni.l5 N n) x0 x1 x2 x8 x9
def ni.b(N:Nat)(dT:ni.bm)(a0:a6)(a1:Int)(a2:Int):Option (a6×(Int)):=
 (jj N a0).bind fun r1=>cond (!r1) (some ([],(1:Int))) (dT a0 a1 a2 ([]) (0:Int))
def ni(N:Nat)(a0:a6)(a1:Int)(a2:Int):Option (a6×(Int)):=ni.b N (ni.l5 N N) a0 a1 a2
abbrev nj.eX:=aj→Int→bl→aq→Int→Option (bl×(Int))
def nj.oX(N:Nat)(eS:nj.eX)(x0:aj)(x1:Int)(aQ:bl)(aF:aq)(aN:Int):Option (bl×(Int)):=
 cond (aL aN (List.length x0:Int)) (cond (aM aN (List.length x0)) (cond (!aA (((List.getD x0 aN.toNat aZ).2).1) x1) (eS x0 x1 aQ aF (W .i64 (aN+1))) ((J8 N aF).bind fun r9=>cond (aA r9 0) (eS x0 x1 aQ aF (W .i64 (aN+1))) (cond (aM aN (List.length x0)) ((I1 N ((List.getD x0 aN.toNat aZ).1)).bind fun lW=>cond (aM aN (List.length x0)) ((fu N ((((List.getD x0 aN.toNat aZ).2).2).1)).bind fun mK=>(gj N mK aF).bind fun lD=>cond (small (List.length aQ+List.length ([(lW.1,(lW.2,(lD,())))]))) (eS x0 x1 (aQ++([(lW.1,(lW.2,(lD,())))])) aF (W .i64 (aN+1))) (none)) (none)) (none)))) (none)) (some (aQ,(0:Int)))
def nj.l6(N:Nat):Nat→nj.eX
 |0,_,_,_,_,_=>none
 |n+1,x0,x1,aQ,aF,aN=>nj.oX N (nj.l6 N n) x0 x1 aQ aF aN
def nj.b(N:Nat)(qq:nj.eX)(a0:aj)(a1:Int)(a2:Int)(a3:Int):Option (bl×(Int)):=
 (ud N a0).bind fun r1=>cond (!r1) (some ([],(1:Int))) ((xF N a2).bind fun r2=>cond (!r2) (some ([],(1:Int))) ((xF N a3).bind fun r3=>cond (!r3) (some ([],(1:Int))) ((fu N a3).bind fun r4=>(fu N a2).bind fun r5=>(HQ N r4 r5).bind fun r6=>qq a0 a1 ([]) r6 (0:Int))))
def nj(N:Nat)(a0:aj)(a1:Int)(a2:Int)(a3:Int):Option (bl×(Int)):=nj.b N (nj.l6 N N) a0 a1 a2 a3
def SP(N:Nat)(a0:aa)(a1:ag)(a2:Int)(a3:Int):Option (ag×bl×(Int)):=
 (bI N a0 a1).bind fun r1=>cond (!r1) (some ((aS,(cj,(ba,(ba,(cI,(cL,())))))),([]:List ((Int)×((Int)×(((Bool)×((List (Int))×(Unit)))×(Unit))))),(1:Int))) ((xF N a3).bind fun r2=>cond (!r2) (some ((aS,(cj,(ba,(ba,(cI,(cL,())))))),([]:List ((Int)×((Int)×(((Bool)×((List (Int))×(Unit)))×(Unit))))),(1:Int))) (cond (aL a2 0) (some ((aS,(cj,(ba,(ba,(cI,(cL,())))))),([]:List ((Int)×((Int)×(((Bool)×((List (Int))×(Unit)))×(Unit))))),(3:Int))) (cond (bX (List.length a0.1:Int) a2) (some ((aS,(cj,(ba,(ba,(cI,(cL,())))))),([]:List ((Int)×((Int)×(((Bool)×((List (Int))×(Unit)))×(Unit))))),(3:Int))) (cond (aM a2 (List.length a1.2.2.2.2.1)) ((nj N a1.2.2.2.1 a2 (List.getD a1.2.2.2.2.1 a2.toNat (0:Int)) a3).bind fun r3=>(zS N a1 ba r3.1).bind fun r4=>cond (!aA r4.2 0) (some ((aS,(cj,(ba,(ba,(cI,(cL,())))))),([]:List ((Int)×((Int)×(((Bool)×((List (Int))×(Unit)))×(Unit))))),r4.2)) (cond (small (List.length cI+List.length a1.2.2.2.2.1)) (let v5:List (Int):=cI++a1.2.2.2.2.1;cond (aM a2 (List.length v5)) (some ((r4.1.1,(r4.1.2.1,(r4.1.2.2.1,(r4.1.2.2.2.1,((List.set v5 a2.toNat a3),r4.1.2.2.2.2.2))))),r3.1,(0:Int))) (none)) (none))) (none)))))
abbrev mq.bQ:=ax→Int→Option (Bool)
def mq.dP(N:Nat)(cJ:mq.bQ)(x0:ax)(x3:Int):Option (Bool):=
 cond (aL x3 (List.length x0:Int)) (cond (aM x3 (List.length x0)) (cond (aL ((List.getD x0 x3.toNat bR).1) (1:Int)) (some false) (cond (aM x3 (List.length x0)) (cond (aL 24 ((List.getD x0 x3.toNat bR).1)) (some false) (cond (aM x3 (List.length x0)) (cond (aA (((List.getD x0 x3.toNat bR).2).1) (0:Int)) (some false) (cond (aL 0 x3) (cond (aM x3 (List.length x0)) (let v2:Int:=W .i64 (x3-1);cond (aM v2 (List.length x0)) (cond (bX ((List.getD x0 x3.toNat bR).1) ((List.getD x0 v2.toNat bR).1)) (some false) (cJ x0 (W .i64 (x3+1)))) (none)) (none)) (cJ x0 (W .i64 (x3+1))))) (none))) (none))) (none)) (some true)
def mq.l2(N:Nat):Nat→mq.bQ
 |0,_,_=>none
 |n+1,x0,x3=>mq.dP N (mq.l2 N n) x0 x3
def mq.b(N:Nat)(eW:mq.bQ)(a0:ax):Option (Bool):=
 eW a0 (0:Int)
def mq(N:Nat)(a0:ax):Option (Bool):=mq.b N (mq.l2 N N) a0
abbrev c8.rW:=ax→bl→ax→Int→aq→Int→Option (ax×(Int))
abbrev c8.iS:=ax→bl→ax→Int→aq→Int→Option (ax×(Int))
abbrev c8.bm:=ax→bl→ax→Int→Option (ax×(Int))
def c8.zL(N:Nat)(bh:c8.bm)(xi:c8.rW)(x0:ax)(x1:bl)(x6:ax)(x7:Int)(x8:aq)(aQ:Int):Option (ax×(Int)):=
 cond (aL aQ (List.length x1:Int)) (cond (aM aQ (List.length x1)) (cond (aA ((List.getD x1 aQ.toNat ((0:Int),((0:Int),((false,lS),())))).1) (5:Int)) (cond (aM aQ (List.length x1)) (cond (aA (((List.getD x1 aQ.toNat ((0:Int),((0:Int),((false,lS),())))).2).1) x7) (cond (aM aQ (List.length x1)) ((ub N x8 ((((List.getD x1 aQ.toNat ((0:Int),((0:Int),((false,lS),())))).2).2).1)).bind fun r8=>xi x0 x1 x6 x7 r8 (W .i64 (aQ+1))) (none)) (xi x0 x1 x6 x7 x8 (W .i64 (aQ+1)))) (none)) (xi x0 x1 x6 x7 x8 (W .i64 (aQ+1)))) (none)) ((rz N x8).bind fun mK=>cond (!mK.2) (some ([],(2:Int))) (cond (!aA mK.1 0) (cond (small (List.length x6+List.length ([(x7,(mK.1,()))]))) (bh x0 x1 (x6++([(x7,(mK.1,()))])) (W .i64 (x7+1))) (none)) (bh x0 x1 x6 (W .i64 (x7+1)))))
def c8.B8(N:Nat)(bh:c8.bm):Nat→c8.rW
 |0,_,_,_,_,_,_=>none
 |n+1,x0,x1,x6,x7,x8,aQ=>c8.zL N bh (c8.B8 N bh n) x0 x1 x6 x7 x8 aQ
def c8.s0(N:Nat)(Gs:c8.rW)(bh:c8.bm)(nC:c8.iS)(x0:ax)(x1:bl)(x6:ax)(x7:Int)(x8:aq)(x9:Int):Option (ax×(Int)):=
 cond (aL x9 (List.length x0:Int)) (cond (aM x9 (List.length x0)) (cond (aA ((List.getD x0 x9.toNat bR).1) x7) (cond (aM x9 (List.length x0)) ((fu N (((List.getD x0 x9.toNat bR).2).1)).bind fun r4=>nC x0 x1 x6 x7 r4 (W .i64 (x9+1))) (none)) (nC x0 x1 x6 x7 x8 (W .i64 (x9+1)))) (none)) (Gs x0 x1 x6 x7 x8 (0:Int))
def c8.l9(N:Nat)(bh:c8.bm):Nat→c8.iS
 |0,_,_,_,_,_,_=>none
 |n+1,x0,x1,x6,x7,x8,x9=>c8.s0 N (c8.B8 N bh N) bh (c8.l9 N bh n) x0 x1 x6 x7 x8 x9
def c8.dr(N:Nat)(tW:c8.iS)(bh:c8.bm)(x0:ax)(x1:bl)(x6:ax)(x7:Int):Option (ax×(Int)):=
 cond (bX x7 24) (tW x0 x1 x6 x7 (false,lS) (0:Int)) (some (x6,(0:Int)))
def c8.l5(N:Nat):Nat→c8.bm
 |0,_,_,_,_=>none
 |n+1,x0,x1,x6,x7=>c8.dr N (c8.l9 N (c8.l5 N n) N) (c8.l5 N n) x0 x1 x6 x7
def c8.b(N:Nat)(dT:c8.bm)(a0:ax)(a1:bl):Option (ax×(Int)):=
 (mq N a0).bind fun r1=>cond (!r1) (some ([],(1:Int))) (dT a0 a1 ([]) (1:Int))
def c8(N:Nat)(a0:ax)(a1:bl):Option (ax×(Int)):=c8.b N (c8.l5 N N) a0 a1
def MH(N:Nat)(a0:aE)(a1:Int):Option ((Int)×(Bool)):=
 (fu N a0.1).bind fun r1=>(fu N a1).bind fun r2=>(ub N r1 r2).bind fun r3=>(rz N r3).bind fun r4=>some (r4.1,r4.2)
def SL(N:Nat)(a0:Int)(a1:Int):Option ((Int)×(Bool)):=
 cond (aA a0 0) (cond (aA a1 1) (some ((1:Int),true)) (cond (aA a0 1) (cond (aA a1 11) (some ((2:Int),true)) (cond (aA a0 2) (cond (aA a1 12) (some ((1:Int),true)) (cond (aA a0 2) (cond (aA a1 13) (some ((3:Int),true)) (cond (aA a0 3) (cond (aA a1 21) (some ((4:Int),true)) (some ((0:Int),false))) (some ((0:Int),false)))) (cond (aA a0 3) (cond (aA a1 21) (some ((4:Int),true)) (some ((0:Int),false))) (some ((0:Int),false))))) (cond (aA a0 2) (cond (aA a1 13) (some ((3:Int),true)) (cond (aA a0 3) (cond (aA a1 21) (some ((4:Int),true)) (some ((0:Int),false))) (some ((0:Int),false)))) (cond (aA a0 3) (cond (aA a1 21) (some ((4:Int),true)) (some ((0:Int),false))) (some ((0:Int),false)))))) (cond (aA a0 2) (cond (aA a1 12) (some ((1:Int),true)) (cond (aA a0 2) (cond (aA a1 13) (some ((3:Int),true)) (cond (aA a0 3) (cond (aA a1 21) (some ((4:Int),true)) (some ((0:Int),false))) (some ((0:Int),false)))) (cond (aA a0 3) (cond (aA a1 21) (some ((4:Int),true)) (some ((0:Int),false))) (some ((0:Int),false))))) (cond (aA a0 2) (cond (aA a1 13) (some ((3:Int),true)) (cond (aA a0 3) (cond (aA a1 21) (some ((4:Int),true)) (some ((0:Int),false))) (some ((0:Int),false)))) (cond (aA a0 3) (cond (aA a1 21) (some ((4:Int),true)) (some ((0:Int),false))) (some ((0:Int),false))))))) (cond (aA a0 1) (cond (aA a1 11) (some ((2:Int),true)) (cond (aA a0 2) (cond (aA a1 12) (some ((1:Int),true)) (cond (aA a0 2) (cond (aA a1 13) (some ((3:Int),true)) (cond (aA a0 3) (cond (aA a1 21) (some ((4:Int),true)) (some ((0:Int),false))) (some ((0:Int),false)))) (cond (aA a0 3) (cond (aA a1 21) (some ((4:Int),true)) (some ((0:Int),false))) (some ((0:Int),false))))) (cond (aA a0 2) (cond (aA a1 13) (some ((3:Int),true)) (cond (aA a0 3) (cond (aA a1 21) (some ((4:Int),true)) (some ((0:Int),false))) (some ((0:Int),false)))) (cond (aA a0 3) (cond (aA a1 21) (some ((4:Int),true)) (some ((0:Int),false))) (some ((0:Int),false)))))) (cond (aA a0 2) (cond (aA a1 12) (some ((1:Int),true)) (cond (aA a0 2) (cond (aA a1 13) (some ((3:Int),true)) (cond (aA a0 3) (cond (aA a1 21) (some ((4:Int),true)) (some ((0:Int),false))) (some ((0:Int),false)))) (cond (aA a0 3) (cond (aA a1 21) (some ((4:Int),true)) (some ((0:Int),false))) (some ((0:Int),false))))) (cond (aA a0 2) (cond (aA a1 13) (some ((3:Int),true)) (cond (aA a0 3) (cond (aA a1 21) (some ((4:Int),true)) (some ((0:Int),false))) (some ((0:Int),false)))) (cond (aA a0 3) (cond (aA a1 21) (some ((4:Int),true)) (some ((0:Int),false))) (some ((0:Int),false))))))
abbrev lA.fp:=Int→Int→ax→Int→Option (ax×(Int))
def lA.tR(N:Nat)(dq:lA.fp)(x1:Int)(x9:Int)(aF:ax)(aN:Int):Option (ax×(Int)):=
 cond (aL aN (List.length aF:Int)) (cond (aM aN (List.length aF)) (cond (aA ((List.getD aF aN.toNat bR).1) x1) (cond (aM aN (List.length aF)) (dq x1 x9 (List.set aF aN.toNat ((List.getD aF aN.toNat bR).1,(x9,((List.getD aF aN.toNat bR).2).2))) (W .i64 (aN+1))) (none)) (dq x1 x9 aF (W .i64 (aN+1)))) (none)) (some (aF,(0:Int)))
def lA.ue(N:Nat):Nat→lA.fp
 |0,_,_,_,_=>none
 |n+1,x1,x9,aF,aN=>lA.tR N (lA.ue N n) x1 x9 aF aN
def lA.b(N:Nat)(Au:lA.fp)(a0:ax)(a1:Int)(a2:Int):Option (ax×(Int)):=
 (jP N a0).bind fun r1=>cond (!r1) (some ([],(1:Int))) ((jk N a0 a1).bind fun r2=>cond (aA r2 0) (some ([],(3:Int))) ((SL N r2 a2).bind fun r3=>cond (!r3.2) (some ([],(8:Int))) (cond (small (List.length aS+List.length a0)) (Au a1 r3.1 (aS++a0) (0:Int)) (none))))
def lA(N:Nat)(a0:ax)(a1:Int)(a2:Int):Option (ax×(Int)):=lA.b N (lA.ue N N) a0 a1 a2
abbrev nh.bm:=ay→Int→(List (Int))→Int→Option (List (Int))
def nh.dr(N:Nat)(bh:nh.bm)(x0:ay)(x1:Int)(x5:List (Int))(x6:Int):Option (List (Int)):=
 cond (aL x6 (List.length x0:Int)) (cond (aM x6 (List.length x0)) (cond (aA (((List.getD x0 x6.toNat aC).2).1) x1) (cond (aM x6 (List.length x0)) (cond (small (List.length x5+List.length ([(List.getD x0 x6.toNat aC).1]))) (bh x0 x1 (x5++([(List.getD x0 x6.toNat aC).1])) (W .i64 (x6+1))) (none)) (none)) (bh x0 x1 x5 (W .i64 (x6+1)))) (none)) (some x5)
def nh.l5(N:Nat):Nat→nh.bm
 |0,_,_,_,_=>none
 |n+1,x0,x1,x5,x6=>nh.dr N (nh.l5 N n) x0 x1 x5 x6
def nh.b(N:Nat)(dT:nh.bm)(a0:ay)(a1:Int):Option (List (Int)):=
 (iB N a0).bind fun r1=>cond (!r1) (some ([])) (dT a0 a1 ([]) (0:Int))
def nh(N:Nat)(a0:ay)(a1:Int):Option (List (Int)):=nh.b N (nh.l5 N N) a0 a1
abbrev fe.iS:=a6→(List (Int))→a6→Int→Bool→Int→Option a6
abbrev fe.bm:=a6→(List (Int))→a6→Int→Option a6
def fe.s0(N:Nat)(bh:fe.bm)(nC:fe.iS)(x0:a6)(x1:List (Int))(x5:a6)(x6:Int)(x7:Bool)(x8:Int):Option a6:=
 cond (aL x8 (List.length x1:Int)) (cond (x7) (nC x0 x1 x5 x6 true (W .i64 (x8+1))) (cond (aM x8 (List.length x1)) (cond (aM x6 (List.length x0)) (nC x0 x1 x5 x6 (aA (List.getD x1 x8.toNat (0:Int)) (((List.getD x0 x6.toNat eD).2).1)) (W .i64 (x8+1))) (none)) (none))) (cond (!x7) (cond (aM x6 (List.length x0)) (cond (small (List.length x5+List.length ([List.getD x0 x6.toNat eD]))) (bh x0 x1 (x5++([List.getD x0 x6.toNat eD])) (W .i64 (x6+1))) (none)) (none)) (bh x0 x1 x5 (W .i64 (x6+1))))
def fe.l9(N:Nat)(bh:fe.bm):Nat→fe.iS
 |0,_,_,_,_,_,_=>none
 |n+1,x0,x1,x5,x6,x7,x8=>fe.s0 N bh (fe.l9 N bh n) x0 x1 x5 x6 x7 x8
def fe.dr(N:Nat)(tW:fe.iS)(bh:fe.bm)(x0:a6)(x1:List (Int))(x5:a6)(x6:Int):Option a6:=
 cond (aL x6 (List.length x0:Int)) (tW x0 x1 x5 x6 false (0:Int)) (some x5)
def fe.l5(N:Nat):Nat→fe.bm
 |0,_,_,_,_=>none
 |n+1,x0,x1,x5,x6=>fe.dr N (fe.l9 N (fe.l5 N n) N) (fe.l5 N n) x0 x1 x5 x6
def fe.b(N:Nat)(dT:fe.bm)(a0:a6)(a1:List (Int)):Option a6:=
 (jj N a0).bind fun r1=>cond (!r1) (some ([])) (dT a0 a1 ([]) (0:Int))
def fe(N:Nat)(a0:a6)(a1:List (Int)):Option a6:=fe.b N (fe.l5 N N) a0 a1
def Ms(N:Nat)(a0:aa)(a1:ag)(a2:Int):Option (ag×(Int)):=
 (bI N a0 a1).bind fun r1=>cond (!r1) (some ((aS,(cj,(ba,(ba,(cI,(cL,())))))),(1:Int))) ((uW N a1.1 a2).bind fun r2=>cond (aA r2 0) (some ((aS,(cj,(ba,(ba,(cI,(cL,())))))),(3:Int))) ((nh N a1.2.1 a2).bind fun r3=>(fe N a1.2.2.2.2.2.1 r3).bind fun r4=>some ((a1.1,(a1.2.1,(a1.2.2.1,(a1.2.2.2.1,(a1.2.2.2.2.1,(r4,a1.2.2.2.2.2.2)))))),(0:Int))))
def OE(N:Nat)(a0:bn):Option (Bool):=
 cond (bX 1 a0.1) (cond (bX a0.1 1099511627776) (cond (bX 1 a0.2.1) (cond (bX a0.2.1 1099511627776) (cond (bX 1 a0.2.2.1) (cond (bX a0.2.2.1 12) (cond (bX (-1152921504606846976) a0.2.2.2.1) (some (bX a0.2.2.2.1 1152921504606846976)) (some false)) (some false)) (some false)) (some false)) (some false)) (some false)) (some false)
abbrev cW.iS:=ay→Int→Int→Option (Bool)
abbrev cW.Jn:=ay→Int→Option (Bool)
abbrev cW.bk:=ay→Int→Option (Bool)
def cW.s0(N:Nat)(bA:cW.bk)(nC:cW.iS)(x0:ay)(x3:Int)(x4:Int):Option (Bool):=
 cond (aL x4 x3) (cond (aM x4 (List.length x0)) (cond (aM x3 (List.length x0)) (cond (aA ((((List.getD x0 x4.toNat aC).2).2).1) ((((List.getD x0 x3.toNat aC).2).2).1)) (cond (aM x4 (List.length x0)) (cond (aM x3 (List.length x0)) (cond (aA (((List.getD x0 x4.toNat aC).2).1) (((List.getD x0 x3.toNat aC).2).1)) (some false) (nC x0 x3 (W .i64 (x4+1)))) (none)) (none)) (nC x0 x3 (W .i64 (x4+1)))) (none)) (none)) (bA x0 (W .i64 (x3+1)))
def cW.l9(N:Nat)(bA:cW.bk):Nat→cW.iS
 |0,_,_,_=>none
 |n+1,x0,x3,x4=>cW.s0 N bA (cW.l9 N bA n) x0 x3 x4
def cW.IK(N:Nat)(tW:cW.iS)(bA:cW.bk)(x0:ay)(x3:Int):Option (Bool):=
 tW x0 x3 (0:Int)
def cW.j8(N:Nat)(bA:cW.bk)(x0:ay)(x3:Int):Option (Bool):=cW.IK N (cW.l9 N bA N) bA x0 x3
def cW.cY(N:Nat)(Al:cW.Jn)(bA:cW.bk)(x0:ay)(x3:Int):Option (Bool):=
 cond (aL x3 (List.length x0:Int)) (cond (aM x3 (List.length x0)) ((OE N (List.getD x0 x3.toNat aC)).bind fun r2=>cond (!r2) (some false) (cond (aL 0 x3) (cond (aM x3 (List.length x0)) (let v3:Int:=W .i64 (x3-1);cond (aM v3 (List.length x0)) (cond (bX ((List.getD x0 x3.toNat aC).1) ((List.getD x0 v3.toNat aC).1)) (some false) (Al x0 x3)) (none)) (none)) (Al x0 x3))) (none)) (some true)
def cW.l4(N:Nat):Nat→cW.bk
 |0,_,_=>none
 |n+1,x0,x3=>cW.cY N (cW.j8 N (cW.l4 N n)) (cW.l4 N n) x0 x3
def cW.b(N:Nat)(dG:cW.bk)(a0:ay):Option (Bool):=
 cond (aL 40 (List.length a0:Int)) (some false) (dG a0 (0:Int))
def cW(N:Nat)(a0:ay):Option (Bool):=cW.b N (cW.l4 N N) a0
abbrev lP.bm:=ay→Int→ay→Int→Option ay
def lP.dr(N:Nat)(bh:lP.bm)(x0:ay)(x1:Int)(x5:ay)(x6:Int):Option ay:=
 cond (aL x6 (List.length x0:Int)) (cond (aM x6 (List.length x0)) (cond (!aA ((((List.getD x0 x6.toNat aC).2).2).1) x1) (cond (aM x6 (List.length x0)) (cond (small (List.length x5+List.length ([List.getD x0 x6.toNat aC]))) (bh x0 x1 (x5++([List.getD x0 x6.toNat aC])) (W .i64 (x6+1))) (none)) (none)) (bh x0 x1 x5 (W .i64 (x6+1)))) (none)) (some x5)
def lP.l5(N:Nat):Nat→lP.bm
 |0,_,_,_,_=>none
 |n+1,x0,x1,x5,x6=>lP.dr N (lP.l5 N n) x0 x1 x5 x6
def lP.b(N:Nat)(dT:lP.bm)(a0:ay)(a1:Int):Option ay:=
 (cW N a0).bind fun r1=>cond (!r1) (some ([])) (dT a0 a1 ([]) (0:Int))
def lP(N:Nat)(a0:ay)(a1:Int):Option ay:=lP.b N (lP.l5 N N) a0 a1
def S7(N:Nat)(a0:aE)(a1:Int):Option (Bool):=
 cond (aA a1 14) (cond (aA a0.2.2.2.1.2.1 1) (some (aL a0.1 a0.2.2.2.1.2.2.1)) (some false)) (cond (aA a1 15) (cond (aA a0.2.2.2.1.2.1 1) (some (bX a0.2.2.2.1.2.2.1 a0.1)) (some false)) (cond (aA a1 19) (cond (aA a0.2.2.2.1.2.1 3) (some (aL a0.1 a0.2.2.2.1.2.2.1)) (some false)) (cond (aA a1 20) (cond (aA a0.2.2.2.1.2.1 3) (some (bX a0.2.2.2.1.2.2.1 a0.1)) (some false)) (some (aA a0.2.2.2.1.2.1 2)))))
def Du(N:Nat)(a0:ag)(a1:Int):Option (Int):=
 (uW N a0.1 a1).bind fun r1=>some r1
abbrev lQ.bm:=ax→Bool→aa→aq→aq→Int→Option (aq×(Int))
def lQ.dr(N:Nat)(bh:lQ.bm)(x1:ax)(x2:Bool)(x3:aa)(x6:aq)(x8:aq)(x9:Int):Option (aq×(Int)):=
 cond (aL x9 (List.length x1:Int)) (cond (aM x9 (List.length x1)) (cond (aM ((List.getD x1 x9.toNat bR).1) (List.length x3.1)) (cond (x2) (cond (aM x9 (List.length x1)) (cond (aM ((List.getD x1 x9.toNat bR).1) (List.length x3.1)) (cond (aM x9 (List.length x1)) ((fu N (((List.getD x1 x9.toNat bR).2).1)).bind fun r3=>(On N r3).bind fun r4=>(fu N (((((List.getD x3.1 ((List.getD x1 x9.toNat bR).1).toNat aC).2).2).2).1)).bind fun r5=>(gj N r4 r5).bind fun r6=>(ub N x8 r6).bind fun r7=>bh x1 x2 x3 x6 r7 (W .i64 (x9+1))) (none)) (none)) (none)) (cond (aM x9 (List.length x1)) ((fu N (((List.getD x1 x9.toNat bR).2).1)).bind fun r9=>(On N r9).bind fun jL=>(fu N ((((List.getD x3.1 ((List.getD x1 x9.toNat bR).1).toNat aC).2).2).1)).bind fun lW=>(gj N jL lW).bind fun mK=>(ub N x8 mK).bind fun lD=>bh x1 x2 x3 x6 lD (W .i64 (x9+1))) (none))) (none)) (none)) (some (x8,(0:Int)))
def lQ.l5(N:Nat):Nat→lQ.bm
 |0,_,_,_,_,_,_=>none
 |n+1,x1,x2,x3,x6,x8,x9=>lQ.dr N (lQ.l5 N n) x1 x2 x3 x6 x8 x9
def lQ.b(N:Nat)(dT:lQ.bm)(a0:aa)(a1:ax)(a2:Bool):Option (aq×(Int)):=
 (jE N a0 a1).bind fun r1=>cond (!r1) (some ((false,lS),(1:Int))) (dT a1 a2 a0 (false,lS) (false,lS) (0:Int))
def lQ(N:Nat)(a0:aa)(a1:ax)(a2:Bool):Option (aq×(Int)):=lQ.b N (lQ.l5 N N) a0 a1 a2
def ZN(N:Nat)(a0:aa)(a1:ax):Option (aq×(Int)):=
 (lQ N a0 a1 false).bind fun r1=>some (r1.1,r1.2)
def I8(N:Nat)(a0:ag)(a1:Int):Option (Int):=
 (ov N a0.2.2.1 (5:Int) a1).bind fun r1=>some r1
def SV(N:Nat)(a0:aa)(a1:ag)(a2:Int)(a3:Int)(a4:Int):Option (Int):=
 (bI N a0 a1).bind fun r1=>cond (!r1) (some (1:Int)) ((zj N a1.2.1 a4).bind fun r2=>cond (!r2.2) (some (3:Int)) ((Du N a1 a2).bind fun r3=>cond (aA r3 0) (some (3:Int)) ((Du N a1 a3).bind fun r4=>cond (aA r4 0) (some (3:Int)) (cond (!aA r2.1.2.1 a2) (some (8:Int)) (cond (!aA r2.1.2.2.1 2) (some (8:Int)) ((Du N a1 a3).bind fun r5=>cond (!aA r5 1) (some (7:Int)) ((s9 N a1.2.2.2.1 a4).bind fun r6=>(ZN N a0 r6).bind fun r7=>(I8 N a1 a4).bind fun r8=>(fu N r8).bind fun r9=>(CY N r9 r7.1).bind fun jL=>cond (aL jL 0) (some (10:Int)) (some (0:Int)))))))))
abbrev ng.fb:=Int→Int→ay→Int→Option (ay×(Int))
def ng.mg(N:Nat)(gg:ng.fb)(x2:Int)(x3:Int)(bb:ay)(bs:Int):Option (ay×(Int)):=
 cond (aL bs (List.length bb:Int)) (cond (aM bs (List.length bb)) (cond (aA ((List.getD bb bs.toNat aC).1) x2) (cond (aM bs (List.length bb)) (gg x2 x3 (List.set bb bs.toNat ((List.getD bb bs.toNat aC).1,(x3,((List.getD bb bs.toNat aC).2).2))) (W .i64 (bs+1))) (none)) (gg x2 x3 bb (W .i64 (bs+1)))) (none)) (some (bb,(0:Int)))
def ng.ot(N:Nat):Nat→ng.fb
 |0,_,_,_,_=>none
 |n+1,x2,x3,bb,bs=>ng.mg N (ng.ot N n) x2 x3 bb bs
def ng.b(N:Nat)(rT:ng.fb)(a0:ax)(a1:ay)(a2:Int)(a3:Int):Option (ay×(Int)):=
 (ko N a0 a1).bind fun r1=>cond (!r1) (some ([],(1:Int))) ((jQ N a1 a2).bind fun r2=>(jk N a0 a3).bind fun r3=>cond (!r2.2) (some ([],(3:Int))) (cond (aA r3 0) (some ([],(3:Int))) (cond (!aA r2.1.2.2.1 2) (some ([],(8:Int))) (cond (!aA r3 1) (some ([],(7:Int))) (cond (small (List.length cj+List.length a1)) (rT a2 a3 (cj++a1) (0:Int)) (none))))))
def ng(N:Nat)(a0:ax)(a1:ay)(a2:Int)(a3:Int):Option (ay×(Int)):=ng.b N (ng.ot N N) a0 a1 a2 a3
def SU(N:Nat)(a0:aa)(a1:ag)(a2:Int)(a3:Int)(a4:Int):Option (ag×(Int)):=
 (SV N a0 a1 a2 a3 a4).bind fun r1=>cond (!aA r1 0) (some ((aS,(cj,(ba,(ba,(cI,(cL,())))))),r1)) ((ng N a1.1 a1.2.1 a4 a3).bind fun r2=>cond (!aA r2.2 0) (some ((aS,(cj,(ba,(ba,(cI,(cL,())))))),r2.2)) (some ((a1.1,(r2.1,a1.2.2)),(0:Int))))
def PJ(N:Nat)(a0:aa)(a1:ax):Option (aq×(Int)):=
 (lQ N a0 a1 true).bind fun r1=>some (r1.1,r1.2)
def S4(N:Nat)(a0:aa)(a1:ag)(a2:Int):Option ((Int)×(Int)):=
 (bI N a0 a1).bind fun r1=>cond (!r1) (some ((0:Int),(1:Int))) ((zj N a1.2.1 a2).bind fun r2=>cond (!r2.2) (some ((0:Int),(3:Int))) ((s9 N a1.2.2.2.1 a2).bind fun r3=>(PJ N a0 r3).bind fun r4=>(I8 N a1 a2).bind fun r5=>cond (bX r5 0) (some ((0:Int),(0:Int))) ((rz N r4.1).bind fun r6=>cond (r6.2) (cond (aL r6.1 r5) (some (r6.1,(0:Int))) (some (r5,(0:Int)))) (some (r5,(0:Int))))))
abbrev mv.bm:=aj→Int→Int→aj→Int→Option aj
def mv.dr(N:Nat)(bh:mv.bm)(x0:aj)(x1:Int)(x2:Int)(x7:aj)(x8:Int):Option aj:=
 cond (aL x8 (List.length x0:Int)) (cond (aM x8 (List.length x0)) (cond (aA ((List.getD x0 x8.toNat aZ).1) x1) (cond (aM x8 (List.length x0)) (cond (aM x8 (List.length x0)) (let v3:Int:=W .i64 (0-((((List.getD x0 x8.toNat aZ).2).2).1));cond (aM x8 (List.length x0)) (cond (aM x8 (List.length x0)) (cond (small (List.length x7+List.length ([(x1,(((List.getD x0 x8.toNat aZ).2).1,(v3,()))),(x2,(((List.getD x0 x8.toNat aZ).2).1,((((List.getD x0 x8.toNat aZ).2).2).1,())))]))) (bh x0 x1 x2 (x7++([(x1,(((List.getD x0 x8.toNat aZ).2).1,(v3,()))),(x2,(((List.getD x0 x8.toNat aZ).2).1,((((List.getD x0 x8.toNat aZ).2).2).1,())))])) (W .i64 (x8+1))) (none)) (none)) (none)) (none)) (none)) (bh x0 x1 x2 x7 (W .i64 (x8+1)))) (none)) (some x7)
def mv.l5(N:Nat):Nat→mv.bm
 |0,_,_,_,_,_=>none
 |n+1,x0,x1,x2,x7,x8=>mv.dr N (mv.l5 N n) x0 x1 x2 x7 x8
def mv.b(N:Nat)(dT:mv.bm)(a0:aj)(a1:Int)(a2:Int):Option aj:=
 (ud N a0).bind fun r1=>cond (!r1) (some ([])) (cond (aA a1 a2) (some ([])) (cond (aL a1 0) (some ([])) (cond (aL 24 a1) (some ([])) (cond (aL a2 0) (some ([])) (cond (aL 24 a2) (some ([])) (dT a0 a1 a2 ([]) (0:Int)))))))
def mv(N:Nat)(a0:aj)(a1:Int)(a2:Int):Option aj:=mv.b N (mv.l5 N N) a0 a1 a2
abbrev fR.Ar:=Int→aa→ag→ag→aj→bl→Int→bn→Option (ag×(Int))
abbrev fR.fL:=Int→aa→ag→ag→aj→bl→Int→Option (ag×(Int))
def fR.tS(N:Nat)(dI:fR.fL)(x2:Int)(x3:aa)(x4:ag)(x6:ag)(x8:aj)(x9:bl)(aQ:Int)(aF:bn):Option (ag×(Int)):=
 (I8 N x4 aF.1).bind fun jL=>cond (aL jL 0) ((fu N jL).bind fun lW=>(M9 N lW).bind fun mK=>(zV N (2:Int) (0:Int) (5:Int) aF.1 mK).bind fun lD=>cond (small (List.length x9+List.length lD)) ((mv N x4.2.2.2.1 aF.1 (0:Int)).bind fun tc=>cond (small (List.length x8+List.length tc)) (dI x2 x3 x4 x6 (x8++tc) (x9++lD) (W .i64 (aQ+1))) (none)) (none)) ((mv N x4.2.2.2.1 aF.1 (0:Int)).bind fun ug=>cond (small (List.length x8+List.length ug)) (dI x2 x3 x4 x6 (x8++ug) x9 (W .i64 (aQ+1))) (none))
def fR.Bi(N:Nat)(dI:fR.fL)(x2:Int)(x3:aa)(x4:ag)(x6:ag)(x8:aj)(x9:bl)(aQ:Int)(aF:bn):Option (ag×(Int)):=fR.tS N dI x2 x3 x4 x6 x8 x9 aQ aF
def fR.yh(N:Nat)(qE:fR.Ar)(dI:fR.fL)(x2:Int)(x3:aa)(x4:ag)(x6:ag)(x8:aj)(x9:bl)(aQ:Int):Option (ag×(Int)):=
 cond (aL aQ (List.length x4.2.1:Int)) (cond (aM aQ (List.length x4.2.1)) (cond (!aA (((List.getD x4.2.1 aQ.toNat aC).2).1) x2) (dI x2 x3 x4 x6 x8 x9 (W .i64 (aQ+1))) (cond (aA ((((List.getD x4.2.1 aQ.toNat aC).2).2).1) (2:Int)) ((S4 N x3 x4 ((List.getD x4.2.1 aQ.toNat aC).1)).bind fun r5=>(fu N r5.1).bind fun r6=>(zV N (5:Int) ((List.getD x4.2.1 aQ.toNat aC).1) (2:Int) (0:Int) r6).bind fun r7=>cond (small (List.length x9+List.length r7)) (qE x2 x3 x4 x6 x8 (x9++r7) aQ (List.getD x4.2.1 aQ.toNat aC)) (none)) (qE x2 x3 x4 x6 x8 x9 aQ (List.getD x4.2.1 aQ.toNat aC)))) (none)) ((zS N x4 x8 x9).bind fun xP=>some (xP.1,xP.2))
def fR.l8(N:Nat):Nat→fR.fL
 |0,_,_,_,_,_,_,_=>none
 |n+1,x2,x3,x4,x6,x8,x9,aQ=>fR.yh N (fR.Bi N (fR.l8 N n)) (fR.l8 N n) x2 x3 x4 x6 x8 x9 aQ
def fR.b(N:Nat)(Aq:fR.fL)(a0:aa)(a1:ag)(a2:Int):Option (ag×(Int)):=
 (bI N a0 a1).bind fun r1=>cond (!r1) (some ((aS,(cj,(ba,(ba,(cI,(cL,())))))),(1:Int))) ((Du N a1 a2).bind fun r2=>cond (aA r2 0) (some ((aS,(cj,(ba,(ba,(cI,(cL,())))))),(3:Int))) (Aq a2 a0 a1 (aS,(cj,(ba,(ba,(cI,(cL,())))))) ([]) ([]) (0:Int)))
def fR(N:Nat)(a0:aa)(a1:ag)(a2:Int):Option (ag×(Int)):=fR.b N (fR.l8 N N) a0 a1 a2
abbrev m7.bm:=aa→ag→lz→Int→Option (lz×(Int))
def m7.dr(N:Nat)(bh:m7.bm)(x2:aa)(x3:ag)(x6:lz)(x7:Int):Option (lz×(Int)):=
 cond (aL x7 (List.length x2.1:Int)) (cond (aM x7 (List.length x2.1)) (cond (aM ((List.getD x2.1 x7.toNat aC).1) (List.length x6)) ((s8 N x3.2.2.2.1 (0:Int) x7).bind fun r4=>(fu N r4).bind fun r5=>cond (aM x7 (List.length x3.2.2.2.2.1)) ((fu N (List.getD x3.2.2.2.2.1 x7.toNat (0:Int))).bind fun r6=>(gj N r5 r6).bind fun r7=>(ub N (List.getD x6 ((List.getD x2.1 x7.toNat aC).1).toNat (false,lS)) r7).bind fun r8=>cond (aM ((List.getD x2.1 x7.toNat aC).1) (List.length x6)) (bh x2 x3 (List.set x6 ((List.getD x2.1 x7.toNat aC).1).toNat r8) (W .i64 (x7+1))) (none)) (none)) (none)) (none)) (some (x6,(0:Int)))
def m7.l5(N:Nat):Nat→m7.bm
 |0,_,_,_,_=>none
 |n+1,x2,x3,x6,x7=>m7.dr N (m7.l5 N n) x2 x3 x6 x7
def m7.b(N:Nat)(dT:m7.bm)(a0:aa)(a1:ag):Option (lz×(Int)):=
 (bI N a0 a1).bind fun r1=>cond (!r1) (some ([],(1:Int))) (cond (gm 4 4) (dT a0 a1 (List.replicate (4:Int).toNat (false,lS)) (0:Int)) (none))
def m7(N:Nat)(a0:aa)(a1:ag):Option (lz×(Int)):=m7.b N (m7.l5 N N) a0 a1
abbrev w6.bm:=Int→aa→(List (Int))→Int→Option (List (Int))
def w6.dr(N:Nat)(bh:w6.bm)(x1:Int)(x2:aa)(x5:List (Int))(x6:Int):Option (List (Int)):=
 cond (aL x6 (List.length x2.1:Int)) (cond (aM x6 (List.length x2.1)) (cond (aA ((List.getD x2.1 x6.toNat aC).1) x1) (cond (small (List.length x5+List.length ([x6]))) (bh x1 x2 (x5++([x6])) (W .i64 (x6+1))) (none)) (bh x1 x2 x5 (W .i64 (x6+1)))) (none)) (some x5)
def w6.l5(N:Nat):Nat→w6.bm
 |0,_,_,_,_=>none
 |n+1,x1,x2,x5,x6=>w6.dr N (w6.l5 N n) x1 x2 x5 x6
def w6.b(N:Nat)(dT:w6.bm)(a0:aa)(a1:Int):Option (List (Int)):=
 (iK N a0).bind fun r1=>cond (!r1) (some ([])) (dT a1 a0 ([]) (0:Int))
def w6(N:Nat)(a0:aa)(a1:Int):Option (List (Int)):=w6.b N (w6.l5 N N) a0 a1
abbrev lK.bk:=(List (Int))→(List (Int))→Int→Int→Option ((List (Int))×(Int))
def lK.cY(N:Nat)(bA:lK.bk)(x0:List (Int))(x4:List (Int))(x5:Int)(x6:Int):Option ((List (Int))×(Int)):=
 cond (bX 0 x6) (cond (aL 32 0) (none) (cond (aM x6 (List.length x0)) (let v5:Int:=oY .or .u64 (W .u64 (shl .u64 x5 32)) (List.getD x0 x6.toNat (0:Int));cond (aL 1 0) (none) (cond (aM x6 (List.length x4)) (bA x0 (List.set x4 x6.toNat (shr .u64 v5 1)) (oY .and .u64 v5 1) (W .i64 (x6-1))) (none))) (none))) ((kf N x4).bind fun jL=>some (jL,x5))
def lK.l4(N:Nat):Nat→lK.bk
 |0,_,_,_,_=>none
 |n+1,x0,x4,x5,x6=>lK.cY N (lK.l4 N n) x0 x4 x5 x6
def lK.b(N:Nat)(dG:lK.bk)(a0:List (Int)):Option ((List (Int))×(Int)):=
 cond (gm (List.length a0:Int) (List.length a0:Int)) (dG a0 (List.replicate (List.length a0:Int).toNat (0:Int)) (0:Int) (W .i64 ((List.length a0:Int)-1))) (none)
def lK(N:Nat)(a0:List (Int)):Option ((List (Int))×(Int)):=lK.b N (lK.l4 N N) a0
abbrev fc.iS:=aq→aq→aq→aq→(List (Int))→aq→aq→Int→Option (aq×aq)
abbrev fc.cB:=aq→aq→aq→aq→(List (Int))→(List (Int))→Option (aq×aq)
def fc.s0(N:Nat)(nC:fc.iS)(x2:aq)(x3:aq)(x4:aq)(x5:aq)(x6:List (Int))(aQ:aq)(aF:aq)(aN:Int):Option (aq×aq):=
 cond (bX 0 aN) ((ub N aQ aQ).bind fun r6=>(ub N aF aF).bind fun r7=>cond (aM aN (List.length x6)) (cond (aA (List.getD x6 aN.toNat (0:Int)) (1:Int)) ((fu N (1:Int)).bind fun r8=>(ub N r7 r8).bind fun r9=>(CY N r9 x3).bind fun jL=>cond (bX 0 jL) ((HQ N r9 x3).bind fun lW=>(fu N (1:Int)).bind fun mK=>(ub N r6 mK).bind fun lD=>nC x2 x3 x4 x5 x6 lD lW (W .i64 (aN-1))) (nC x2 x3 x4 x5 x6 r6 r9 (W .i64 (aN-1)))) ((CY N r7 x3).bind fun wi=>cond (bX 0 wi) ((HQ N r7 x3).bind fun tb=>(fu N (1:Int)).bind fun ug=>(ub N r6 ug).bind fun DG=>nC x2 x3 x4 x5 x6 DG tb (W .i64 (aN-1))) (nC x2 x3 x4 x5 x6 r6 r7 (W .i64 (aN-1))))) (none)) (cond (!x2.1) (some (aQ,aF)) ((J8 N aF).bind fun D4=>cond (aA D4 0) ((M9 N aQ).bind fun xQ=>some (xQ,aF)) ((M9 N aQ).bind fun AI=>(fu N (1:Int)).bind fun D3=>(HQ N AI D3).bind fun xg=>(HQ N x3 aF).bind fun MU=>some (xg,MU))))
def fc.l9(N:Nat):Nat→fc.iS
 |0,_,_,_,_,_,_,_,_=>none
 |n+1,x2,x3,x4,x5,x6,aQ,aF,aN=>fc.s0 N (fc.l9 N n) x2 x3 x4 x5 x6 aQ aF aN
def fc.ji(N:Nat)(tW:fc.iS)(ck:fc.cB)(x2:aq)(x3:aq)(x4:aq)(x5:aq)(x6:List (Int))(x7:List (Int)):Option (aq×aq):=
 cond (aL 0 (List.length x7:Int)) ((lK N x7).bind fun r2=>cond (small (List.length x6+List.length ([r2.2]))) (ck x2 x3 x4 x5 (x6++([r2.2])) r2.1) (none)) (tW x2 x3 x4 x5 x6 (false,lS) (false,lS) (W .i64 ((List.length x6:Int)-1)))
def fc.l3(N:Nat):Nat→fc.cB
 |0,_,_,_,_,_,_=>none
 |n+1,x2,x3,x4,x5,x6,x7=>fc.ji N (fc.l9 N N) (fc.l3 N n) x2 x3 x4 x5 x6 x7
def fc.b(N:Nat)(jM:fc.cB)(a0:aq)(a1:aq):Option (aq×aq):=
 jM a0 a1 (false,lS) (false,lS) ([]) a0.2.1
def fc(N:Nat)(a0:aq)(a1:aq):Option (aq×aq):=fc.b N (fc.l3 N N) a0 a1
abbrev qi.Ar:=Int→aa→ag→lz→ay→Int→(List (Int))→Int→Option (ay×(Int))
abbrev qi.eX:=Int→aa→ag→lz→ay→Int→Option (ay×(Int))
def qi.tS(N:Nat)(eS:qi.eX)(x2:Int)(x3:aa)(x4:ag)(x8:lz)(aQ:ay)(aF:Int)(aN:List (Int))(cv:Int):Option (ay×(Int)):=
 cond (aA cv 0) (eS x2 x3 x4 x8 aQ (W .i64 (aF+1))) (cond (aM 0 (List.length aN)) (cond (aM aF (List.length x8)) ((J8 N (List.getD x8 aF.toNat (false,lS))).bind fun sP=>cond (aL 0 sP) (cond (small (List.length aQ+List.length ([(x2,(List.getD aN (0:Int).toNat (0:Int),((2:Int),(cv,()))))]))) (eS (W .i64 (x2+1)) x3 x4 x8 (aQ++([(x2,(List.getD aN (0:Int).toNat (0:Int),((2:Int),(cv,()))))])) (W .i64 (aF+1))) (none)) (cond (small (List.length aQ+List.length ([(x2,(List.getD aN (0:Int).toNat (0:Int),((1:Int),(cv,()))))]))) (eS (W .i64 (x2+1)) x3 x4 x8 (aQ++([(x2,(List.getD aN (0:Int).toNat (0:Int),((1:Int),(cv,()))))])) (W .i64 (aF+1))) (none))) (none)) (none))
def qi.Bi(N:Nat)(eS:qi.eX)(x2:Int)(x3:aa)(x4:ag)(x8:lz)(aQ:ay)(aF:Int)(aN:List (Int))(cv:Int):Option (ay×(Int)):=qi.tS N eS x2 x3 x4 x8 aQ aF aN cv
def qi.oX(N:Nat)(qE:qi.Ar)(eS:qi.eX)(x2:Int)(x3:aa)(x4:ag)(x8:lz)(aQ:ay)(aF:Int):Option (ay×(Int)):=
 cond (aL aF 4) ((w6 N x3 aF).bind fun r3=>cond (aM aF (List.length x8)) ((On N (List.getD x8 aF.toNat (false,lS))).bind fun r4=>cond (aA (List.length r3:Int) 0) (eS x2 x3 x4 x8 aQ (W .i64 (aF+1))) ((fu N x3.2.2.2.2.2.2.1).bind fun r6=>(CY N r4 r6).bind fun r7=>cond (bX r7 0) (eS x2 x3 x4 x8 aQ (W .i64 (aF+1))) (cond (aM 0 (List.length r3)) (cond (aM (List.getD r3 (0:Int).toNat (0:Int)) (List.length x4.2.2.2.2.1)) ((fu N (List.getD x4.2.2.2.2.1 (List.getD r3 (0:Int).toNat (0:Int)).toNat (0:Int))).bind fun r9=>(fc N r4 r9).bind fun jL=>(rz N jL.1).bind fun lW=>cond (!lW.2) (qE x2 x3 x4 x8 aQ aF r3 (1000000000:Int)) (cond (aL 1000000000 lW.1) (qE x2 x3 x4 x8 aQ aF r3 (1000000000:Int)) (qE x2 x3 x4 x8 aQ aF r3 lW.1))) (none)) (none)))) (none)) (some (aQ,(0:Int)))
def qi.l6(N:Nat):Nat→qi.eX
 |0,_,_,_,_,_,_=>none
 |n+1,x2,x3,x4,x8,aQ,aF=>qi.oX N (qi.Bi N (qi.l6 N n)) (qi.l6 N n) x2 x3 x4 x8 aQ aF
def qi.b(N:Nat)(qq:qi.eX)(a0:aa)(a1:ag)(a2:Int):Option (ay×(Int)):=
 (m7 N a0 a1).bind fun r1=>cond (!aA r1.2 0) (some ([],(1:Int))) (cond (aL a2 1) (some ([],(1:Int))) (cond (aL 1099511627772 a2) (some ([],(1:Int))) (qq a2 a0 a1 r1.1 ([]) (0:Int))))
def qi(N:Nat)(a0:aa)(a1:ag)(a2:Int):Option (ay×(Int)):=qi.b N (qi.l6 N N) a0 a1 a2
def Sw(N:Nat)(a0:bn):Option (Bool):=
 cond (bX 1 a0.1) (cond (bX a0.1 1099511627776) (cond (bX 0 a0.2.1) (cond (aL a0.2.1 6) (cond (aA a0.2.2.1 1) (cond (bX 1 a0.2.2.2.1) (some (bX a0.2.2.2.1 1000000000)) (some false)) (cond (aA a0.2.2.1 2) (cond (bX 1 a0.2.2.2.1) (some (bX a0.2.2.2.1 1000000000)) (some false)) (some false))) (some false)) (some false)) (some false)) (some false)
abbrev qj.afv:=Int→aa→ag→bn→ag→bn→qO→Option (ag×bn×(Int))
def qj.ZH(N:Nat)(x4:Int)(x6:aa)(x7:ag)(x8:bn)(aN:ag)(bb:bn)(cw:qO):Option (ag×bn×(Int)):=
 (fI N x6 x7 ([cw])).bind fun r6=>cond (!aA r6.2 0) (some ((aS,(cj,(ba,(ba,(cI,(cL,())))))),aC,r6.2)) (some (r6.1,(x8.1,(x8.2.1,(x8.2.2.1,((W .i64 (x8.2.2.2.1-x4)),x8.2.2.2.2)))),(0:Int)))
def qj.j14(N:Nat)(x4:Int)(x6:aa)(x7:ag)(x8:bn)(aN:ag)(bb:bn)(cw:qO):Option (ag×bn×(Int)):=qj.ZH N x4 x6 x7 x8 aN bb cw
def qj.b(N:Nat)(XO:qj.afv)(a0:aa)(a1:ag)(a2:bn)(a3:Int)(a4:Int)(a5:Int):Option (ag×bn×(Int)):=
 (bI N a0 a1).bind fun r1=>cond (!r1) (some ((aS,(cj,(ba,(ba,(cI,(cL,())))))),aC,(1:Int))) ((Sw N a2).bind fun r2=>cond (!r2) (some ((aS,(cj,(ba,(ba,(cI,(cL,())))))),aC,(1:Int))) (cond (aL a4 1) (some ((aS,(cj,(ba,(ba,(cI,(cL,())))))),aC,(1:Int))) (cond (aL 1000000000 a4) (some ((aS,(cj,(ba,(ba,(cI,(cL,())))))),aC,(1:Int))) (cond (aL a5 1) (some ((aS,(cj,(ba,(ba,(cI,(cL,())))))),aC,(1:Int))) (cond (aL 1000000000000 a5) (some ((aS,(cj,(ba,(ba,(cI,(cL,())))))),aC,(1:Int))) (cond (aL a2.2.2.2.1 a4) (some ((aS,(cj,(ba,(ba,(cI,(cL,())))))),aC,(9:Int))) (cond (aL a3 1) (some ((aS,(cj,(ba,(ba,(cI,(cL,())))))),aC,(1:Int))) (cond (aL 24 a3) (some ((aS,(cj,(ba,(ba,(cI,(cL,())))))),aC,(1:Int))) ((Pn N a0 a1 (a2.1,(a3,(a2.2.1,((W .i64 ((3:Int)-a2.2.2.1)),(a4,(a5,()))))))).bind fun r4=>cond (!aA r4 0) (some ((aS,(cj,(ba,(ba,(cI,(cL,())))))),aC,r4)) (cond (aA a2.2.2.1 2) (XO a4 a0 a1 a2 (aS,(cj,(ba,(ba,(cI,(cL,())))))) aC (a3,((0:Int),(a2.2.1,(a4,(a5,())))))) (XO a4 a0 a1 a2 (aS,(cj,(ba,(ba,(cI,(cL,())))))) aC ((0:Int),(a3,(a2.2.1,(a4,(a5,()))))))))))))))))
def qj(N:Nat)(a0:aa)(a1:ag)(a2:bn)(a3:Int)(a4:Int)(a5:Int):Option (ag×bn×(Int)):=qj.b N (qj.j14 N) a0 a1 a2 a3 a4 a5
abbrev nu.bm:=aa→aE→fK→aE→cE→ay→Bool→Int→Int→Option (aE×cE)
def nu.dr(N:Nat)(bh:nu.bm)(x3:aa)(x4:aE)(x5:fK)(x6:aE)(x7:cE)(x8:ay)(x9:Bool)(aQ:Int)(aF:Int):Option (aE×cE):=
 cond (aL aF (List.length x4.2.2.2.1.2.2.2.2.1:Int)) (cond (aM aF (List.length x4.2.2.2.1.2.2.2.2.1)) (cond (aA ((List.getD x4.2.2.2.1.2.2.2.2.1 aF.toNat aC).1) x5.2.2.2.2.2.1) ((qj N x3 x4.2.2.1 (List.getD x4.2.2.2.1.2.2.2.2.1 aF.toNat aC) x5.2.2.1 x5.2.2.2.2.2.2.1 x5.2.2.2.2.2.2.2.1).bind fun r2=>cond (!aA r2.2.2 0) ((eh N r2.2.2).bind fun r3=>some (x4,r3)) (cond (aL 0 r2.2.1.2.2.2.1) (cond (small (List.length x8+List.length ([r2.2.1]))) (bh x3 (x4.1,(x4.2.1,(r2.1,x4.2.2.2))) x5 x6 x7 (x8++([r2.2.1])) true r2.2.1.2.2.2.1 (W .i64 (aF+1))) (none)) (bh x3 (x4.1,(x4.2.1,(r2.1,x4.2.2.2))) x5 x6 x7 x8 true r2.2.1.2.2.2.1 (W .i64 (aF+1))))) (cond (aL 0 (((((List.getD x4.2.2.2.1.2.2.2.2.1 aF.toNat aC).2).2).2).1)) (cond (small (List.length x8+List.length ([List.getD x4.2.2.2.1.2.2.2.2.1 aF.toNat aC]))) (bh x3 x4 x5 x6 x7 (x8++([List.getD x4.2.2.2.1.2.2.2.2.1 aF.toNat aC])) x9 aQ (W .i64 (aF+1))) (none)) (bh x3 x4 x5 x6 x7 x8 x9 aQ (W .i64 (aF+1))))) (none)) (cond (!x9) ((eh N (3:Int)).bind fun jL=>some (x4,jL)) (some ((x4.1,(x4.2.1,(x4.2.2.1,((x4.2.2.2.1.1,(x4.2.2.2.1.2.1,(x4.2.2.2.1.2.2.1,(x4.2.2.2.1.2.2.2.1,(x8,x4.2.2.2.1.2.2.2.2.2))))),x4.2.2.2.2)))),((0:Int),((0:Int),(aQ,()))))))
def nu.l5(N:Nat):Nat→nu.bm
 |0,_,_,_,_,_,_,_,_,_=>none
 |n+1,x3,x4,x5,x6,x7,x8,x9,aQ,aF=>nu.dr N (nu.l5 N n) x3 x4 x5 x6 x7 x8 x9 aQ aF
def nu.b(N:Nat)(dT:nu.bm)(a0:aa)(a1:aE)(a2:fK):Option (aE×cE):=
 dT a0 a1 a2 ((0:Int),((0:Int),((aS,(cj,(ba,(ba,(cI,(cL,())))))),(((0:Int),((0:Int),((0:Int),((0:Int),(cj,(([]:List ((Int)×((List ((Int)×((Int)×(Unit))))×((Int)×((Int)×((Int)×((Int)×(Unit)))))))),(cj,(cI,(aS,(aS,())))))))))),(((0:Int),((0:Int),(xl,((0:Int),())))),()))))) aZ ([]) false (0:Int) (0:Int)
def nu(N:Nat)(a0:aa)(a1:aE)(a2:fK):Option (aE×cE):=nu.b N (nu.l5 N N) a0 a1 a2
abbrev nk.bk:=Int→aq→Int→Option (Int)
def nk.cY(N:Nat)(bA:nk.bk)(x1:Int)(x2:aq)(x5:Int):Option (Int):=
 cond (aL x5 3) ((fu N x5).bind fun r3=>(fu N x1).bind fun r4=>(gj N r3 r4).bind fun r5=>(CY N r5 x2).bind fun r6=>cond (aL r6 0) (bA x1 x2 (W .i64 (x5+1))) (some x5)) (some x5)
def nk.l4(N:Nat):Nat→nk.bk
 |0,_,_,_=>none
 |n+1,x1,x2,x5=>nk.cY N (nk.l4 N n) x1 x2 x5
def nk.b(N:Nat)(dG:nk.bk)(a0:aq)(a1:Int):Option (Int):=
 (J8 N a0).bind fun r1=>cond (bX r1 0) (some (0:Int)) (cond (aL a1 1) (some (0:Int)) (dG a1 a0 (1:Int)))
def nk(N:Nat)(a0:aq)(a1:Int):Option (Int):=nk.b N (nk.l4 N N) a0 a1
abbrev lO.bk:=(List (Int))→Int→Option (Bool)
def lO.cY(N:Nat)(bA:lO.bk)(x1:List (Int))(x5:Int):Option (Bool):=
 cond (aL x5 (List.length x1:Int)) (cond (aM x5 (List.length x1)) (cond (aL (List.getD x1 x5.toNat (0:Int)) (0:Int)) (some true) (bA x1 (W .i64 (x5+1)))) (none)) (some false)
def lO.l4(N:Nat):Nat→lO.bk
 |0,_,_=>none
 |n+1,x1,x5=>lO.cY N (lO.l4 N n) x1 x5
def lO.b(N:Nat)(dG:lO.bk)(a0:Int)(a1:List (Int)):Option (Bool):=
 cond (aL a0 0) (some true) (cond (aL 64 (List.length a1:Int)) (some true) (dG a1 (0:Int)))
def lO(N:Nat)(a0:Int)(a1:List (Int)):Option (Bool):=lO.b N (lO.l4 N N) a0 a1
abbrev lJ.cB:=(List (Int))→aq→aq→Int→Option aq
def lJ.ji(N:Nat)(ck:lJ.cB)(x0:List (Int))(x2:aq)(x3:aq)(x4:Int):Option aq:=
 cond (aL x4 (List.length x0:Int)) (cond (aM x4 (List.length x0)) ((fu N (List.getD x0 x4.toNat (0:Int))).bind fun r2=>(ub N x3 r2).bind fun r3=>ck x0 x2 r3 (W .i64 (x4+1))) (none)) (some x3)
def lJ.l3(N:Nat):Nat→lJ.cB
 |0,_,_,_,_=>none
 |n+1,x0,x2,x3,x4=>lJ.ji N (lJ.l3 N n) x0 x2 x3 x4
def lJ.b(N:Nat)(jM:lJ.cB)(a0:List (Int)):Option aq:=
 jM a0 (false,lS) (false,lS) (0:Int)
def lJ(N:Nat)(a0:List (Int)):Option aq:=lJ.b N (lJ.l3 N N) a0
abbrev dt.Jn:=(List (Int))→(List (Int))→Int→Int→Option (List (Int))
abbrev dt.eX:=(List (Int))→(List (Int))→Int→Int→Option (List (Int))
abbrev dt.cB:=(List (Int))→(List (Int))→Int→Option (List (Int))
def dt.IK(N:Nat)(ck:dt.cB)(x0:List (Int))(x3:List (Int))(x4:Int)(x5:Int):Option (List (Int)):=
 cond (fM 0 x5 (List.length x3:Int) (List.length x3:Int)) (let v5:List (Int):=List.drop (0:Int).toNat (List.take x5.toNat x3);cond (small (List.length v5)) (cond (small (List.length v5+List.length ([x4]))) (let v6:List (Int):=v5++([x4]);cond (fM x5 (List.length x3:Int) (List.length x3:Int) (List.length x3:Int)) (let v7:List (Int):=List.drop x5.toNat (List.take (List.length x3:Int).toNat x3);cond (small (List.length v6+List.length v7)) (ck x0 (v6++v7) (W .i64 (x4+1))) (none)) (none)) (none)) (none)) (none)
def dt.j8(N:Nat)(ck:dt.cB)(x0:List (Int))(x3:List (Int))(x4:Int)(x5:Int):Option (List (Int)):=dt.IK N ck x0 x3 x4 x5
def dt.oX(N:Nat)(Al:dt.Jn)(ck:dt.cB)(eS:dt.eX)(x0:List (Int))(x3:List (Int))(x4:Int)(x5:Int):Option (List (Int)):=
 cond (aL x5 (List.length x3:Int)) (cond (aM x5 (List.length x3)) (cond (aM (List.getD x3 x5.toNat (0:Int)) (List.length x0)) (cond (aM x4 (List.length x0)) (cond (bX (List.getD x0 x4.toNat (0:Int)) (List.getD x0 (List.getD x3 x5.toNat (0:Int)).toNat (0:Int))) (eS x0 x3 x4 (W .i64 (x5+1))) (Al x0 x3 x4 x5)) (none)) (none)) (none)) (Al x0 x3 x4 x5)
def dt.l6(N:Nat)(ck:dt.cB):Nat→dt.eX
 |0,_,_,_,_=>none
 |n+1,x0,x3,x4,x5=>dt.oX N (dt.j8 N ck) ck (dt.l6 N ck n) x0 x3 x4 x5
def dt.ji(N:Nat)(qq:dt.eX)(ck:dt.cB)(x0:List (Int))(x3:List (Int))(x4:Int):Option (List (Int)):=
 cond (aL x4 (List.length x0:Int)) (qq x0 x3 x4 (0:Int)) (some x3)
def dt.l3(N:Nat):Nat→dt.cB
 |0,_,_,_=>none
 |n+1,x0,x3,x4=>dt.ji N (dt.l6 N (dt.l3 N n) N) (dt.l3 N n) x0 x3 x4
def dt.b(N:Nat)(jM:dt.cB)(a0:List (Int)):Option (List (Int)):=
 jM a0 ([]) (0:Int)
def dt(N:Nat)(a0:List (Int)):Option (List (Int)):=dt.b N (dt.l3 N N) a0
abbrev dD.nA:=(List (Int))→Int→(List (Int))→Int→Option ((List (Int))×(Int))
abbrev dD.rW:=Int→(List (Int))→aq→(List (Int))→(List (Int))→Int→Int→Option ((List (Int))×(Int))
abbrev dD.Qi:=Int→(List (Int))→aq→Option ((List (Int))×(Int))
def dD.rG(N:Nat)(Ai:dD.nA)(x9:List (Int))(aF:Int)(bz:List (Int))(cv:Int):Option ((List (Int))×(Int)):=
 cond (aL cv (List.length bz:Int)) (cond (aL 0 aF) (cond (aM cv (List.length bz)) (cond (aM (List.getD bz cv.toNat (0:Int)) (List.length x9)) (cond (aM (List.getD bz cv.toNat (0:Int)) (List.length x9)) (Ai (List.set x9 (List.getD bz cv.toNat (0:Int)).toNat (W .i64 ((List.getD x9 (List.getD bz cv.toNat (0:Int)).toNat (0:Int))+1))) (W .i64 (aF-1)) bz (W .i64 (cv+1))) (none)) (none)) (none)) (some (x9,(0:Int)))) (some (x9,(0:Int)))
def dD.sM(N:Nat):Nat→dD.nA
 |0,_,_,_,_=>none
 |n+1,x9,aF,bz,cv=>dD.rG N (dD.sM N n) x9 aF bz cv
def dD.zL(N:Nat)(Aj:dD.nA)(xi:dD.rW)(x0:Int)(x1:List (Int))(x6:aq)(x9:List (Int))(aQ:List (Int))(aF:Int)(aN:Int):Option ((List (Int))×(Int)):=
 cond (aL aN (List.length x1:Int)) ((fu N x0).bind fun jL=>cond (aM aN (List.length x1)) ((fu N (List.getD x1 aN.toNat (0:Int))).bind fun lW=>(gj N jL lW).bind fun mK=>(fc N mK x6).bind fun lD=>(rz N lD.1).bind fun sP=>cond (aM aN (List.length x9)) (let v15:List (Int):=List.set x9 aN.toNat sP.1;(rz N lD.2).bind fun wi=>cond (aM aN (List.length aQ)) (cond (aM aN (List.length v15)) (xi x0 x1 x6 v15 (List.set aQ aN.toNat wi.1) (W .i64 (aF-(List.getD v15 aN.toNat (0:Int)))) (W .i64 (aN+1))) (none)) (none)) (none)) (none)) ((dt N aQ).bind fun Cp=>Aj x9 aF Cp (0:Int))
def dD.B8(N:Nat):Nat→dD.rW
 |0,_,_,_,_,_,_,_=>none
 |n+1,x0,x1,x6,x9,aQ,aF,aN=>dD.zL N (dD.sM N N) (dD.B8 N n) x0 x1 x6 x9 aQ aF aN
def dD.M8(N:Nat)(Gs:dD.rW)(x0:Int)(x1:List (Int))(x6:aq):Option ((List (Int))×(Int)):=
 (rz N x6).bind fun r5=>cond (!r5.2) (some ([],(2:Int))) (cond (gm (List.length x1:Int) (List.length x1:Int)) (let v6:List (Int):=List.replicate (List.length x1:Int).toNat (0:Int);cond (gm (List.length x1:Int) (List.length x1:Int)) ((J8 N x6).bind fun r8=>cond (aA r8 0) (some (v6,(0:Int))) (Gs x0 x1 x6 v6 (List.replicate (List.length x1:Int).toNat (0:Int)) x0 (0:Int))) (none)) (none))
def dD.j6(N:Nat)(x0:Int)(x1:List (Int))(x6:aq):Option ((List (Int))×(Int)):=dD.M8 N (dD.B8 N N) x0 x1 x6
def dD.b(N:Nat)(DF:dD.Qi)(a0:Int)(a1:List (Int)):Option ((List (Int))×(Int)):=
 (lO N a0 a1).bind fun r1=>cond (r1) (some ([],(1:Int))) ((lJ N a1).bind fun r2=>(J8 N r2).bind fun r3=>cond (aA r3 0) (cond (!aA a0 0) (some ([],(1:Int))) (DF a0 a1 r2)) (DF a0 a1 r2))
def dD(N:Nat)(a0:Int)(a1:List (Int)):Option ((List (Int))×(Int)):=dD.b N (dD.j6 N) a0 a1
abbrev m5.bm:=Int→Int→(List (Int))→Int→Option ((List (Int))×(Int))
def m5.dr(N:Nat)(bh:m5.bm)(x0:Int)(x1:Int)(x6:List (Int))(x7:Int):Option ((List (Int))×(Int)):=
 cond (aL x7 x1) (cond (aM x7 (List.length x6)) (bh x0 x1 (List.set x6 x7.toNat (1:Int)) (W .i64 (x7+1))) (none)) ((dD N x0 x6).bind fun r5=>some (r5.1,r5.2))
def m5.l5(N:Nat):Nat→m5.bm
 |0,_,_,_,_=>none
 |n+1,x0,x1,x6,x7=>m5.dr N (m5.l5 N n) x0 x1 x6 x7
def m5.b(N:Nat)(dT:m5.bm)(a0:Int)(a1:Int):Option ((List (Int))×(Int)):=
 cond (aL a0 0) (some ([],(1:Int))) (cond (aL a1 1) (some ([],(1:Int))) (cond (aL 64 a1) (some ([],(1:Int))) (cond (gm a1 a1) (dT a0 a1 (List.replicate a1.toNat (0:Int)) (0:Int)) (none))))
def m5(N:Nat)(a0:Int)(a1:Int):Option ((List (Int))×(Int)):=m5.b N (m5.l5 N N) a0 a1
abbrev cQ.afw:=Int→aa→ax→az→Int→ax→Int→Int→cq→ax→Int→(List (Int))→Option (az×(Int))
abbrev cQ.Qn:=Int→aa→ax→az→Int→ax→Int→Int→cq→ax→Int→Int→Option (az×(Int))
abbrev cQ.rV:=Int→aa→ax→az→Int→ax→Int→Int→cq→ax→Int→Option (az×(Int))
abbrev cQ.pq:=Int→aa→ax→az→Int→ax→Int→Int→Option (az×(Int))
abbrev cQ.fb:=Int→aa→ax→az→Int→ax→aq→Int→Option (az×(Int))
abbrev cQ.fL:=Int→aa→ax→az→Int→Option (az×(Int))
def cQ.ZP(N:Nat)(dI:cQ.fL)(jg:cQ.pq)(qF:cQ.rV)(x2:Int)(x3:aa)(x8:ax)(x9:az)(aQ:Int)(aF:ax)(bs:Int)(bz:Int)(cv:cq)(qt:ax)(cw:Int)(lF:List (Int)):Option (az×(Int)):=
 cond (aM bz (List.length lF)) (cond (!aA (List.getD lF bz.toNat (0:Int)) (0:Int)) (cond (aM cw (List.length aF)) (cond (aM bz (List.length lF)) (cond (small (List.length qt+List.length ([((List.getD aF cw.toNat bR).1,(List.getD lF bz.toNat (0:Int),()))]))) (qF x2 x3 x8 x9 aQ aF bs bz (cv.1,(aS,cv.2.2)) (qt++([((List.getD aF cw.toNat bR).1,(List.getD lF bz.toNat (0:Int),()))])) (W .i64 (cw+1))) (none)) (none)) (none)) (qF x2 x3 x8 x9 aQ aF bs bz cv qt (W .i64 (cw+1)))) (none)
def cQ.j32(N:Nat)(dI:cQ.fL)(jg:cQ.pq)(qF:cQ.rV)(x2:Int)(x3:aa)(x8:ax)(x9:az)(aQ:Int)(aF:ax)(bs:Int)(bz:Int)(cv:cq)(qt:ax)(cw:Int)(lF:List (Int)):Option (az×(Int)):=cQ.ZP N dI jg qF x2 x3 x8 x9 aQ aF bs bz cv qt cw lF
def cQ.Ja(N:Nat)(XP:cQ.afw)(dI:cQ.fL)(jg:cQ.pq)(qF:cQ.rV)(x2:Int)(x3:aa)(x8:ax)(x9:az)(aQ:Int)(aF:ax)(bs:Int)(bz:Int)(cv:cq)(qt:ax)(cw:Int)(jm:Int):Option (az×(Int)):=
 (m5 N jm bs).bind fun wi=>cond (aM cw (List.length aF)) (cond (aL (((List.getD aF cw.toNat bR).2).1) (0:Int)) (cond (aM bz (List.length wi.1)) (cond (aM bz (List.length wi.1)) (XP x2 x3 x8 x9 aQ aF bs bz cv qt cw (List.set wi.1 bz.toNat (W .i64 (0-(List.getD wi.1 bz.toNat (0:Int)))))) (none)) (none)) (XP x2 x3 x8 x9 aQ aF bs bz cv qt cw wi.1)) (none)
def cQ.PI(N:Nat)(dI:cQ.fL)(jg:cQ.pq)(qF:cQ.rV)(x2:Int)(x3:aa)(x8:ax)(x9:az)(aQ:Int)(aF:ax)(bs:Int)(bz:Int)(cv:cq)(qt:ax)(cw:Int)(jm:Int):Option (az×(Int)):=cQ.Ja N (cQ.j32 N dI jg qF) dI jg qF x2 x3 x8 x9 aQ aF bs bz cv qt cw jm
def cQ.I5(N:Nat)(Gt:cQ.Qn)(dI:cQ.fL)(jg:cQ.pq)(qF:cQ.rV)(x2:Int)(x3:aa)(x8:ax)(x9:az)(aQ:Int)(aF:ax)(bs:Int)(bz:Int)(cv:cq)(qt:ax)(cw:Int):Option (az×(Int)):=
 cond (aL cw (List.length aF:Int)) (cond (aM cw (List.length aF)) (cond (aL (((List.getD aF cw.toNat bR).2).1) (0:Int)) (Gt x2 x3 x8 x9 aQ aF bs bz cv qt cw (W .i64 (0-(((List.getD aF cw.toNat bR).2).1)))) (Gt x2 x3 x8 x9 aQ aF bs bz cv qt cw (((List.getD aF cw.toNat bR).2).1))) (none)) (cond (aA (List.length qt:Int) 0) (jg x2 x3 x8 x9 aQ aF bs (W .i64 (bz+1))) ((PJ N x3 qt).bind fun AI=>(M9 N AI.1).bind fun D3=>(rz N D3).bind fun xg=>cond (!xg.2) (some ([],(2:Int))) (cond (small (List.length x9+List.length ([(cv.1,(qt,(xg.1,cv.2.2.2)))]))) (jg (W .i64 (x2+1)) x3 x8 (x9++([(cv.1,(qt,(xg.1,cv.2.2.2)))])) aQ aF bs (W .i64 (bz+1))) (none))))
def cQ.HU(N:Nat)(dI:cQ.fL)(jg:cQ.pq):Nat→cQ.rV
 |0,_,_,_,_,_,_,_,_,_,_,_=>none
 |n+1,x2,x3,x8,x9,aQ,aF,bs,bz,cv,qt,cw=>cQ.I5 N (cQ.PI N dI jg (cQ.HU N dI jg n)) dI jg (cQ.HU N dI jg n) x2 x3 x8 x9 aQ aF bs bz cv qt cw
def cQ.I9(N:Nat)(Qm:cQ.rV)(dI:cQ.fL)(jg:cQ.pq)(x2:Int)(x3:aa)(x8:ax)(x9:az)(aQ:Int)(aF:ax)(bs:Int)(bz:Int):Option (az×(Int)):=
 cond (aL bz bs) (Qm x2 x3 x8 x9 aQ aF bs bz (x2,(aS,((0:Int),((1:Int),bR)))) aS (0:Int)) (dI x2 x3 x8 x9 (W .i64 (aQ+1)))
def cQ.Dv(N:Nat)(dI:cQ.fL):Nat→cQ.pq
 |0,_,_,_,_,_,_,_,_=>none
 |n+1,x2,x3,x8,x9,aQ,aF,bs,bz=>cQ.I9 N (cQ.HU N dI (cQ.Dv N dI n) N) dI (cQ.Dv N dI n) x2 x3 x8 x9 aQ aF bs bz
def cQ.mg(N:Nat)(Qo:cQ.pq)(dI:cQ.fL)(gg:cQ.fb)(x2:Int)(x3:aa)(x8:ax)(x9:az)(aQ:Int)(aF:ax)(aN:aq)(bb:Int):Option (az×(Int)):=
 cond (aL bb (List.length x8:Int)) (cond (aM bb (List.length x8)) (cond (aM ((List.getD x8 bb.toNat bR).1) (List.length x3.1)) (cond (aA ((List.getD x3.1 ((List.getD x8 bb.toNat bR).1).toNat aC).1) aQ) (cond (aM bb (List.length x8)) (cond (small (List.length aF+List.length ([List.getD x8 bb.toNat bR]))) (cond (aM bb (List.length x8)) ((fu N (((List.getD x8 bb.toNat bR).2).1)).bind fun r6=>(On N r6).bind fun r7=>(ub N aN r7).bind fun r8=>gg x2 x3 x8 x9 aQ (aF++([List.getD x8 bb.toNat bR])) r8 (W .i64 (bb+1))) (none)) (none)) (none)) (gg x2 x3 x8 x9 aQ aF aN (W .i64 (bb+1)))) (none)) (none)) ((nk N aN x3.2.2.2.2.2.1).bind fun lW=>Qo x2 x3 x8 x9 aQ aF lW (0:Int))
def cQ.ot(N:Nat)(dI:cQ.fL):Nat→cQ.fb
 |0,_,_,_,_,_,_,_,_=>none
 |n+1,x2,x3,x8,x9,aQ,aF,aN,bb=>cQ.mg N (cQ.Dv N dI N) dI (cQ.ot N dI n) x2 x3 x8 x9 aQ aF aN bb
def cQ.yh(N:Nat)(rT:cQ.fb)(dI:cQ.fL)(x2:Int)(x3:aa)(x8:ax)(x9:az)(aQ:Int):Option (az×(Int)):=
 cond (aL aQ 4) (rT x2 x3 x8 x9 aQ ([]) (false,lS) (0:Int)) (some (x9,(0:Int)))
def cQ.l8(N:Nat):Nat→cQ.fL
 |0,_,_,_,_,_=>none
 |n+1,x2,x3,x8,x9,aQ=>cQ.yh N (cQ.ot N (cQ.l8 N n) N) (cQ.l8 N n) x2 x3 x8 x9 aQ
def cQ.b(N:Nat)(Aq:cQ.fL)(a0:aa)(a1:ag)(a2:Int):Option (az×(Int)):=
 (bI N a0 a1).bind fun r1=>cond (!r1) (some ([],(1:Int))) (cond (aL a2 1) (some ([],(1:Int))) (cond (aL 1099511627764 a2) (some ([],(1:Int))) ((s9 N a1.2.2.2.1 (0:Int)).bind fun r2=>cond (aA (List.length r2:Int) 0) (some ([],(3:Int))) (Aq a2 a0 r2 ([]) (0:Int)))))
def cQ(N:Nat)(a0:aa)(a1:ag)(a2:Int):Option (az×(Int)):=cQ.b N (cQ.l8 N N) a0 a1 a2
abbrev nn.bm:=ag→(List (Int))→Int→Option ((List (Int))×(Int))
def nn.dr(N:Nat)(bh:nn.bm)(x3:ag)(x6:List (Int))(x7:Int):Option ((List (Int))×(Int)):=
 cond (aL x7 (List.length x3.1:Int)) (cond (aM x7 (List.length x3.1)) (cond (aA (((List.getD x3.1 x7.toNat bR).2).1) (1:Int)) (cond (aM x7 (List.length x3.1)) ((ov N x3.2.2.1 (6:Int) ((List.getD x3.1 x7.toNat bR).1)).bind fun r3=>cond (aL 0 r3) (cond (aM x7 (List.length x3.1)) (cond (small (List.length x6+List.length ([(List.getD x3.1 x7.toNat bR).1]))) (bh x3 (x6++([(List.getD x3.1 x7.toNat bR).1])) (W .i64 (x7+1))) (none)) (none)) (bh x3 x6 (W .i64 (x7+1)))) (none)) (bh x3 x6 (W .i64 (x7+1)))) (none)) (some (x6,(0:Int)))
def nn.l5(N:Nat):Nat→nn.bm
 |0,_,_,_=>none
 |n+1,x3,x6,x7=>nn.dr N (nn.l5 N n) x3 x6 x7
def nn.b(N:Nat)(dT:nn.bm)(a0:aa)(a1:ag):Option ((List (Int))×(Int)):=
 (bI N a0 a1).bind fun r1=>cond (!r1) (some ([],(1:Int))) (dT a1 ([]) (0:Int))
def nn(N:Nat)(a0:aa)(a1:ag):Option ((List (Int))×(Int)):=nn.b N (nn.l5 N N) a0 a1
abbrev fv.Jp:=az→aa→Int→cq→Option (Bool)
abbrev fv.bk:=az→aa→Int→Option (Bool)
def fv.Is(N:Nat)(bA:fv.bk)(x1:az)(x2:aa)(x5:Int)(x6:cq):Option (Bool):=
 cond (aA x6.2.2.2.1 1) (cond (!aA x6.2.2.2.2.1 0) (some false) (cond (!aA x6.2.2.2.2.2.1 0) (some false) (bA x1 x2 (W .i64 (x5+1))))) (cond (aA x6.2.2.2.1 3) (cond (!aA x6.2.2.2.2.1 0) (some false) (cond (!aA x6.2.2.2.2.2.1 0) (some false) (bA x1 x2 (W .i64 (x5+1))))) (cond (aA x6.2.2.2.1 2) (cond (aL x6.2.2.2.2.1 1) (some false) (cond (aL 12 x6.2.2.2.2.1) (some false) (cond (aL x6.2.2.2.2.2.1 (-1152921504606846976)) (some false) (cond (aL 1152921504606846976 x6.2.2.2.2.2.1) (some false) (bA x1 x2 (W .i64 (x5+1))))))) (some false)))
def fv.j9(N:Nat)(bA:fv.bk)(x1:az)(x2:aa)(x5:Int)(x6:cq):Option (Bool):=fv.Is N bA x1 x2 x5 x6
def fv.cY(N:Nat)(Ap:fv.Jp)(bA:fv.bk)(x1:az)(x2:aa)(x5:Int):Option (Bool):=
 cond (aL x5 (List.length x1:Int)) (cond (aM x5 (List.length x1)) (cond (aL ((List.getD x1 x5.toNat ((0:Int),(aS,aC))).1) (1:Int)) (some false) (cond (aL 1099511627776 ((List.getD x1 x5.toNat ((0:Int),(aS,aC))).1)) (some false) (cond (aL 0 x5) (let v3:Int:=W .i64 (x5-1);cond (aM v3 (List.length x1)) (cond (bX ((List.getD x1 x5.toNat ((0:Int),(aS,aC))).1) ((List.getD x1 v3.toNat ((0:Int),(aS,aC))).1)) (some false) (cond (aA (List.length (((List.getD x1 x5.toNat ((0:Int),(aS,aC))).2).1):Int) (0:Int)) (some false) ((jE N x2 (((List.getD x1 x5.toNat ((0:Int),(aS,aC))).2).1)).bind fun r4=>cond (!r4) (some false) (cond (aL 0 ((((List.getD x1 x5.toNat ((0:Int),(aS,aC))).2).2).1)) (some false) (Ap x1 x2 x5 (List.getD x1 x5.toNat ((0:Int),(aS,aC)))))))) (none)) (cond (aA (List.length (((List.getD x1 x5.toNat ((0:Int),(aS,aC))).2).1):Int) (0:Int)) (some false) ((jE N x2 (((List.getD x1 x5.toNat ((0:Int),(aS,aC))).2).1)).bind fun r9=>cond (!r9) (some false) (cond (aL 0 ((((List.getD x1 x5.toNat ((0:Int),(aS,aC))).2).2).1)) (some false) (Ap x1 x2 x5 (List.getD x1 x5.toNat ((0:Int),(aS,aC)))))))))) (none)) (some true)
def fv.l4(N:Nat):Nat→fv.bk
 |0,_,_,_=>none
 |n+1,x1,x2,x5=>fv.cY N (fv.j9 N (fv.l4 N n)) (fv.l4 N n) x1 x2 x5
def fv.b(N:Nat)(dG:fv.bk)(a0:aa)(a1:az):Option (Bool):=
 (iK N a0).bind fun r1=>cond (!r1) (some false) (cond (aL 12 (List.length a1:Int)) (some false) (dG a1 a0 (0:Int)))
def fv(N:Nat)(a0:aa)(a1:az):Option (Bool):=fv.b N (fv.l4 N N) a0 a1
abbrev mu.bQ:=az→Int→cq→Int→Option (cq×(Bool))
def mu.dP(N:Nat)(cJ:mu.bQ)(x0:az)(x1:Int)(x4:cq)(x6:Int):Option (cq×(Bool)):=
 cond (aL x6 (List.length x0:Int)) (cond (aM x6 (List.length x0)) (cond (aA ((List.getD x0 x6.toNat ((0:Int),(aS,aC))).1) x1) (cond (aM x6 (List.length x0)) (some (List.getD x0 x6.toNat ((0:Int),(aS,aC)),true)) (none)) (cJ x0 x1 x4 (W .i64 (x6+1)))) (none)) (some (((0:Int),(aS,aC)),false))
def mu.l2(N:Nat):Nat→mu.bQ
 |0,_,_,_,_=>none
 |n+1,x0,x1,x4,x6=>mu.dP N (mu.l2 N n) x0 x1 x4 x6
def mu.b(N:Nat)(eW:mu.bQ)(a0:az)(a1:Int):Option (cq×(Bool)):=
 eW a0 a1 ((0:Int),(aS,aC)) (0:Int)
def mu(N:Nat)(a0:az)(a1:Int):Option (cq×(Bool)):=mu.b N (mu.l2 N N) a0 a1
abbrev c9.fT:=ax→ax→ax→Int→aq→Int→Option (ax×(Bool))
abbrev c9.cZ:=ax→ax→ax→Int→aq→Int→Option (ax×(Bool))
abbrev c9.cB:=ax→ax→ax→Int→Option (ax×(Bool))
def c9.mf(N:Nat)(ck:c9.cB)(iv:c9.fT)(x0:ax)(x1:ax)(x6:ax)(x7:Int)(x8:aq)(aQ:Int):Option (ax×(Bool)):=
 cond (aL aQ (List.length x1:Int)) (cond (aM aQ (List.length x1)) (cond (aA ((List.getD x1 aQ.toNat bR).1) x7) (cond (aM aQ (List.length x1)) ((fu N (((List.getD x1 aQ.toNat bR).2).1)).bind fun r8=>(ub N x8 r8).bind fun r9=>iv x0 x1 x6 x7 r9 (W .i64 (aQ+1))) (none)) (iv x0 x1 x6 x7 x8 (W .i64 (aQ+1)))) (none)) ((Ph N x8).bind fun mK=>cond (!mK.2) (some ([],false)) (cond (!aA mK.1 0) (cond (small (List.length x6+List.length ([(x7,(mK.1,()))]))) (ck x0 x1 (x6++([(x7,(mK.1,()))])) (W .i64 (x7+1))) (none)) (ck x0 x1 x6 (W .i64 (x7+1)))))
def c9.nE(N:Nat)(ck:c9.cB):Nat→c9.fT
 |0,_,_,_,_,_,_=>none
 |n+1,x0,x1,x6,x7,x8,aQ=>c9.mf N ck (c9.nE N ck n) x0 x1 x6 x7 x8 aQ
def c9.oe(N:Nat)(rU:c9.fT)(ck:c9.cB)(cK:c9.cZ)(x0:ax)(x1:ax)(x6:ax)(x7:Int)(x8:aq)(x9:Int):Option (ax×(Bool)):=
 cond (aL x9 (List.length x0:Int)) (cond (aM x9 (List.length x0)) (cond (aA ((List.getD x0 x9.toNat bR).1) x7) (cond (aM x9 (List.length x0)) ((fu N (((List.getD x0 x9.toNat bR).2).1)).bind fun r3=>(ub N x8 r3).bind fun r4=>cK x0 x1 x6 x7 r4 (W .i64 (x9+1))) (none)) (cK x0 x1 x6 x7 x8 (W .i64 (x9+1)))) (none)) (rU x0 x1 x6 x7 x8 (0:Int))
def c9.l7(N:Nat)(ck:c9.cB):Nat→c9.cZ
 |0,_,_,_,_,_,_=>none
 |n+1,x0,x1,x6,x7,x8,x9=>c9.oe N (c9.nE N ck N) ck (c9.l7 N ck n) x0 x1 x6 x7 x8 x9
def c9.ji(N:Nat)(oV:c9.cZ)(ck:c9.cB)(x0:ax)(x1:ax)(x6:ax)(x7:Int):Option (ax×(Bool)):=
 cond (aL x7 6) (oV x0 x1 x6 x7 (false,lS) (0:Int)) (some (x6,true))
def c9.l3(N:Nat):Nat→c9.cB
 |0,_,_,_,_=>none
 |n+1,x0,x1,x6,x7=>c9.ji N (c9.l7 N (c9.l3 N n) N) (c9.l3 N n) x0 x1 x6 x7
def c9.b(N:Nat)(jM:c9.cB)(a0:ax)(a1:ax):Option (ax×(Bool)):=
 jM a0 a1 ([]) (0:Int)
def c9(N:Nat)(a0:ax)(a1:ax):Option (ax×(Bool)):=c9.b N (c9.l3 N N) a0 a1
def ZO(N:Nat)(a0:a6)(a1:Int):Option aj:=
 (jj N a0).bind fun r1=>cond (!r1) (some ([])) ((eQ N a0 a1).bind fun r2=>some r2)
abbrev gY.fb:=ay→aa→ag→bn→cq→Int→Int→Option (Int)
abbrev gY.akI:=az→ay→aa→ag→bn→Option (Int)
def gY.mg(N:Nat)(gg:gY.fb)(x3:ay)(x5:aa)(x6:ag)(x9:bn)(aN:cq)(bs:Int)(bz:Int):Option (Int):=
 cond (aL bz (List.length x3:Int)) (cond (aM bz (List.length x3)) (cond (aA ((((List.getD x3 bz.toNat aC).2).2).1) x9.2.2.1) (cond (aM bz (List.length x3)) (cond (aA (((List.getD x3 bz.toNat aC).2).1) x9.2.1) (some (4:Int)) (gg x3 x5 x6 x9 aN bs (W .i64 (bz+1)))) (none)) (gg x3 x5 x6 x9 aN bs (W .i64 (bz+1)))) (none)) (cond (aA (List.length x3:Int) 40) (some (5:Int)) ((fu N x9.2.2.2.1).bind fun lD=>(fu N (4:Int)).bind fun sP=>(fu N aN.2.2.1).bind fun tc=>(gj N sP tc).bind fun wi=>(CY N lD wi).bind fun tb=>cond (aL tb 0) (some (11:Int)) ((s9 N x6.2.2.2.1 bs).bind fun ug=>(c9 N ug aN.2.1).bind fun DG=>cond (!DG.2) (some (2:Int)) ((ZO N x6.2.2.2.2.2.1 bs).bind fun Cp=>(mo N x5 DG.1 Cp).bind fun xP=>(I8 N x6 bs).bind fun D4=>(fu N D4).bind fun xQ=>(fu N x9.2.2.2.1).bind fun AI=>(HQ N xQ AI).bind fun D3=>(CY N D3 xP.1).bind fun xg=>cond (aL xg 0) (some (10:Int)) (some (0:Int))))))
def gY.ot(N:Nat):Nat→gY.fb
 |0,_,_,_,_,_,_,_=>none
 |n+1,x3,x5,x6,x9,aN,bs,bz=>gY.mg N (gY.ot N n) x3 x5 x6 x9 aN bs bz
def gY.j3b(N:Nat)(rT:gY.fb)(x2:az)(x3:ay)(x5:aa)(x6:ag)(x9:bn):Option (Int):=
 (Du N x6 x9.2.2.1).bind fun r7=>cond (aA r7 0) (some (3:Int)) (cond (!aA r7 1) (some (7:Int)) ((mu N x2 x9.2.1).bind fun r8=>(sK N x6.2.1 x9.2.2.1).bind fun r9=>cond (!r8.2) (some (3:Int)) (cond (!aA r8.1.2.2.2.1 1) (some (3:Int)) (cond (aA r9 0) (some (3:Int)) (rT x3 x5 x6 x9 r8.1 r9 (0:Int))))))
def gY.j3(N:Nat)(x2:az)(x3:ay)(x5:aa)(x6:ag)(x9:bn):Option (Int):=gY.j3b N (gY.ot N N) x2 x3 x5 x6 x9
def gY.b(N:Nat)(afx:gY.akI)(a0:aa)(a1:ag)(a2:az)(a3:ay)(a4:bn):Option (Int):=
 (bI N a0 a1).bind fun r1=>cond (!r1) (some (1:Int)) ((fv N a0 a2).bind fun r2=>cond (!r2) (some (1:Int)) ((cW N a3).bind fun r3=>cond (!r3) (some (1:Int)) ((OE N a4).bind fun r4=>cond (!r4) (some (1:Int)) (cond (aL 0 (List.length a3:Int)) (let v5:Int:=W .i64 ((List.length a3:Int)-1);cond (aM v5 (List.length a3)) (cond (bX a4.1 ((List.getD a3 v5.toNat aC).1)) (some (1:Int)) (afx a2 a3 a0 a1 a4)) (none)) (afx a2 a3 a0 a1 a4)))))
def gY(N:Nat)(a0:aa)(a1:ag)(a2:az)(a3:ay)(a4:bn):Option (Int):=gY.b N (gY.j3 N) a0 a1 a2 a3 a4
def SX(N:Nat)(a0:aa)(a1:ag)(a2:az)(a3:ay)(a4:bn):Option (ay×(Int)):=
 (gY N a0 a1 a2 a3 a4).bind fun r1=>cond (!aA r1 0) (some ([],r1)) (cond (small (List.length cj+List.length a3)) (let v2:List ((Int)×((Int)×((Int)×((Int)×(Unit))))):=cj++a3;cond (small (List.length v2+List.length ([a4]))) (some ((v2++([a4])),(0:Int))) (none)) (none))
abbrev zZ.eX:=ay→Int→bn→bn→Bool→Int→Option (bn×(Bool))
def zZ.oX(N:Nat)(eS:zZ.eX)(x0:ay)(x1:Int)(x4:bn)(x6:bn)(x7:Bool)(x8:Int):Option (bn×(Bool)):=
 cond (aL x8 (List.length x0:Int)) (cond (aM x8 (List.length x0)) (cond (aA (((List.getD x0 x8.toNat aC).2).1) x1) (cond (!x7) (cond (aM x8 (List.length x0)) (eS x0 x1 x4 (List.getD x0 x8.toNat aC) true (W .i64 (x8+1))) (none)) (cond (aM x8 (List.length x0)) (cond (aL x6.2.2.2.1 (((((List.getD x0 x8.toNat aC).2).2).2).1)) (cond (aM x8 (List.length x0)) (eS x0 x1 x4 (List.getD x0 x8.toNat aC) true (W .i64 (x8+1))) (none)) (eS x0 x1 x4 x6 x7 (W .i64 (x8+1)))) (none))) (eS x0 x1 x4 x6 x7 (W .i64 (x8+1)))) (none)) (some (x6,x7))
def zZ.l6(N:Nat):Nat→zZ.eX
 |0,_,_,_,_,_,_=>none
 |n+1,x0,x1,x4,x6,x7,x8=>zZ.oX N (zZ.l6 N n) x0 x1 x4 x6 x7 x8
def zZ.b(N:Nat)(qq:zZ.eX)(a0:ay)(a1:Int):Option (bn×(Bool)):=
 (cW N a0).bind fun r1=>cond (!r1) (some (aC,false)) (qq a0 a1 aC aC false (0:Int))
def zZ(N:Nat)(a0:ay)(a1:Int):Option (bn×(Bool)):=zZ.b N (zZ.l6 N N) a0 a1
abbrev oT.nA:=az→ay→ag→ag→aj→bl→az→Int→cq→bn→Int→Int→Option (ag×az×(Int))
abbrev oT.cZ:=az→ay→ag→ag→aj→bl→az→Int→Option (ag×az×(Int))
def oT.rG(N:Nat)(cK:oT.cZ)(Ai:oT.nA)(x2:az)(x3:ay)(x5:ag)(x8:ag)(aF:aj)(aN:bl)(bb:az)(bs:Int)(bz:cq)(cv:bn)(jm:Int)(lF:Int):Option (ag×az×(Int)):=
 cond (aL lF (List.length bz.2.1:Int)) (cond (aM lF (List.length bz.2.1)) (cond (aM lF (List.length bz.2.1)) (let Z4:Int:=W .i64 (0-(((List.getD bz.2.1 lF.toNat bR).2).1));cond (aM lF (List.length bz.2.1)) (cond (aM lF (List.length bz.2.1)) (cond (small (List.length aF+List.length ([((0:Int),((List.getD bz.2.1 lF.toNat bR).1,(Z4,()))),(jm,((List.getD bz.2.1 lF.toNat bR).1,(((List.getD bz.2.1 lF.toNat bR).2).1,())))]))) (Ai x2 x3 x5 x8 (aF++([((0:Int),((List.getD bz.2.1 lF.toNat bR).1,(Z4,()))),(jm,((List.getD bz.2.1 lF.toNat bR).1,(((List.getD bz.2.1 lF.toNat bR).2).1,())))])) aN bb bs bz cv jm (W .i64 (lF+1))) (none)) (none)) (none)) (none)) (none)) ((fu N cv.2.2.2.1).bind fun tb=>(zV N (5:Int) jm (2:Int) (0:Int) tb).bind fun ug=>cond (small (List.length aN+List.length ug)) (cond (small (List.length bb+List.length ([bz]))) (cK x2 x3 x5 x8 aF (aN++ug) (bb++([bz])) (W .i64 (bs+1))) (none)) (none))
def oT.sM(N:Nat)(cK:oT.cZ):Nat→oT.nA
 |0,_,_,_,_,_,_,_,_,_,_,_,_=>none
 |n+1,x2,x3,x5,x8,aF,aN,bb,bs,bz,cv,jm,lF=>oT.rG N cK (oT.sM N cK n) x2 x3 x5 x8 aF aN bb bs bz cv jm lF
def oT.oe(N:Nat)(Aj:oT.nA)(cK:oT.cZ)(x2:az)(x3:ay)(x5:ag)(x8:ag)(aF:aj)(aN:bl)(bb:az)(bs:Int):Option (ag×az×(Int)):=
 cond (aL bs (List.length x2:Int)) (cond (aM bs (List.length x2)) (cond (small (List.length aS+List.length (((List.getD x2 bs.toNat ((0:Int),(aS,aC))).2).1))) (let v5:List ((Int)×((Int)×(Unit))):=aS++(((List.getD x2 bs.toNat ((0:Int),(aS,aC))).2).1);cond (!aA (((((List.getD x2 bs.toNat ((0:Int),(aS,aC))).2).2).2).1) (1:Int)) (cond (small (List.length bb+List.length ([((List.getD x2 bs.toNat ((0:Int),(aS,aC))).1,(v5,((List.getD x2 bs.toNat ((0:Int),(aS,aC))).2).2))]))) (cK x2 x3 x5 x8 aF aN (bb++([((List.getD x2 bs.toNat ((0:Int),(aS,aC))).1,(v5,((List.getD x2 bs.toNat ((0:Int),(aS,aC))).2).2))])) (W .i64 (bs+1))) (none)) ((zZ N x3 ((List.getD x2 bs.toNat ((0:Int),(aS,aC))).1)).bind fun r8=>cond (!r8.2) (cond (small (List.length bb+List.length ([((List.getD x2 bs.toNat ((0:Int),(aS,aC))).1,(v5,((((List.getD x2 bs.toNat ((0:Int),(aS,aC))).2).2).1,((3:Int),((((List.getD x2 bs.toNat ((0:Int),(aS,aC))).2).2).2).2))))]))) (cK x2 x3 x5 x8 aF aN (bb++([((List.getD x2 bs.toNat ((0:Int),(aS,aC))).1,(v5,((((List.getD x2 bs.toNat ((0:Int),(aS,aC))).2).2).1,((3:Int),((((List.getD x2 bs.toNat ((0:Int),(aS,aC))).2).2).2).2))))])) (W .i64 (bs+1))) (none)) ((sK N x5.2.1 r8.1.2.2.1).bind fun lW=>cond (aA lW 0) (some ((aS,(cj,(ba,(ba,(cI,(cL,())))))),[],(3:Int))) ((Du N x5 r8.1.2.2.1).bind fun mK=>cond (aA mK 0) (some ((aS,(cj,(ba,(ba,(cI,(cL,())))))),[],(3:Int))) (Aj x2 x3 x5 x8 aF aN bb bs ((List.getD x2 bs.toNat ((0:Int),(aS,aC))).1,(v5,((((List.getD x2 bs.toNat ((0:Int),(aS,aC))).2).2).1,((2:Int),(r8.1.2.2.1,(r8.1.2.2.2.1,((((((List.getD x2 bs.toNat ((0:Int),(aS,aC))).2).2).2).2).2).2)))))) r8.1 lW (0:Int)))))) (none)) (none)) ((zS N x5 aF aN).bind fun D4=>cond (!aA D4.2 0) (some ((aS,(cj,(ba,(ba,(cI,(cL,())))))),[],D4.2)) (some (D4.1,bb,(0:Int))))
def oT.l7(N:Nat):Nat→oT.cZ
 |0,_,_,_,_,_,_,_,_=>none
 |n+1,x2,x3,x5,x8,aF,aN,bb,bs=>oT.oe N (oT.sM N (oT.l7 N n) N) (oT.l7 N n) x2 x3 x5 x8 aF aN bb bs
def oT.b(N:Nat)(oV:oT.cZ)(a0:aa)(a1:ag)(a2:az)(a3:ay):Option (ag×az×(Int)):=
 (bI N a0 a1).bind fun r1=>cond (!r1) (some ((aS,(cj,(ba,(ba,(cI,(cL,())))))),[],(1:Int))) ((fv N a0 a2).bind fun r2=>cond (!r2) (some ((aS,(cj,(ba,(ba,(cI,(cL,())))))),[],(1:Int))) ((cW N a3).bind fun r3=>cond (!r3) (some ((aS,(cj,(ba,(ba,(cI,(cL,())))))),[],(1:Int))) (oV a2 a3 a1 (aS,(cj,(ba,(ba,(cI,(cL,())))))) ([]) ([]) ([]) (0:Int))))
def oT(N:Nat)(a0:aa)(a1:ag)(a2:az)(a3:ay):Option (ag×az×(Int)):=oT.b N (oT.l7 N N) a0 a1 a2 a3
abbrev lB.bQ:=ax→Int→Option (Bool)
def lB.dP(N:Nat)(cJ:lB.bQ)(x0:ax)(x3:Int):Option (Bool):=
 cond (aL x3 (List.length x0:Int)) (cond (aM x3 (List.length x0)) (cond (aL ((List.getD x0 x3.toNat bR).1) (1:Int)) (some false) (cond (aM x3 (List.length x0)) (cond (aL 12 ((List.getD x0 x3.toNat bR).1)) (some false) (cond (aM x3 (List.length x0)) (cond (aL (((List.getD x0 x3.toNat bR).2).1) (1:Int)) (some false) (cond (aM x3 (List.length x0)) (cond (aL 4 (((List.getD x0 x3.toNat bR).2).1)) (some false) (cond (aL 0 x3) (cond (aM x3 (List.length x0)) (let v2:Int:=W .i64 (x3-1);cond (aM v2 (List.length x0)) (cond (bX ((List.getD x0 x3.toNat bR).1) ((List.getD x0 v2.toNat bR).1)) (some false) (cJ x0 (W .i64 (x3+1)))) (none)) (none)) (cJ x0 (W .i64 (x3+1))))) (none))) (none))) (none))) (none)) (some true)
def lB.l2(N:Nat):Nat→lB.bQ
 |0,_,_=>none
 |n+1,x0,x3=>lB.dP N (lB.l2 N n) x0 x3
def lB.b(N:Nat)(eW:lB.bQ)(a0:ax):Option (Bool):=
 eW a0 (0:Int)
def lB(N:Nat)(a0:ax):Option (Bool):=lB.b N (lB.l2 N N) a0
abbrev np.bQ:=(List (Int))→Int→Option (Bool)
def np.dP(N:Nat)(cJ:np.bQ)(x0:List (Int))(x3:Int):Option (Bool):=
 cond (aL x3 (List.length x0:Int)) (cond (aM x3 (List.length x0)) (cond (aL (List.getD x0 x3.toNat (0:Int)) (1:Int)) (some false) (cond (aM x3 (List.length x0)) (cond (aL 12 (List.getD x0 x3.toNat (0:Int))) (some false) (cond (aL 0 x3) (cond (aM x3 (List.length x0)) (let v2:Int:=W .i64 (x3-1);cond (aM v2 (List.length x0)) (cond (bX (List.getD x0 x3.toNat (0:Int)) (List.getD x0 v2.toNat (0:Int))) (some false) (cJ x0 (W .i64 (x3+1)))) (none)) (none)) (cJ x0 (W .i64 (x3+1))))) (none))) (none)) (some true)
def np.l2(N:Nat):Nat→np.bQ
 |0,_,_=>none
 |n+1,x0,x3=>np.dP N (np.l2 N n) x0 x3
def np.b(N:Nat)(eW:np.bQ)(a0:List (Int)):Option (Bool):=
 eW a0 (0:Int)
def np(N:Nat)(a0:List (Int)):Option (Bool):=np.b N (np.l2 N N) a0
abbrev fQ.fT:=Int→az→Int→Int→Option (Int)
abbrev fQ.cB:=Int→az→ay→Int→Int→Option (Int)
def fQ.mf(N:Nat)(iv:fQ.fT)(x0:Int)(x1:az)(x7:Int)(aN:Int):Option (Int):=
 cond (aL aN (List.length x1:Int)) (cond (aM aN (List.length x1)) (cond (aA (((((List.getD x1 aN.toNat ((0:Int),(aS,aC))).2).2).2).1) (2:Int)) (cond (aM aN (List.length x1)) (cond (aA ((((((List.getD x1 aN.toNat ((0:Int),(aS,aC))).2).2).2).2).1) x0) (iv x0 x1 (4:Int) (W .i64 (aN+1))) (iv x0 x1 x7 (W .i64 (aN+1)))) (none)) (iv x0 x1 x7 (W .i64 (aN+1)))) (none)) (some x7)
def fQ.nE(N:Nat):Nat→fQ.fT
 |0,_,_,_,_=>none
 |n+1,x0,x1,x7,aN=>fQ.mf N (fQ.nE N n) x0 x1 x7 aN
def fQ.ji(N:Nat)(rU:fQ.fT)(ck:fQ.cB)(x0:Int)(x1:az)(x2:ay)(x7:Int)(x8:Int):Option (Int):=
 cond (aL x8 (List.length x2:Int)) (cond (aM x8 (List.length x2)) (cond (!aA ((((List.getD x2 x8.toNat aC).2).2).1) x0) (ck x0 x1 x2 x7 (W .i64 (x8+1))) (cond (aM x8 (List.length x2)) ((mu N x1 (((List.getD x2 x8.toNat aC).2).1)).bind fun r3=>cond (r3.2) (cond (aM x8 (List.length x2)) (cond (bX r3.1.2.2.1 (((((List.getD x2 x8.toNat aC).2).2).2).1)) (ck x0 x1 x2 (mx x7 3) (W .i64 (x8+1))) (ck x0 x1 x2 (mx x7 2) (W .i64 (x8+1)))) (none)) (ck x0 x1 x2 (mx x7 2) (W .i64 (x8+1)))) (none))) (none)) (rU x0 x1 x7 (0:Int))
def fQ.l3(N:Nat):Nat→fQ.cB
 |0,_,_,_,_,_=>none
 |n+1,x0,x1,x2,x7,x8=>fQ.ji N (fQ.nE N N) (fQ.l3 N n) x0 x1 x2 x7 x8
def fQ.b(N:Nat)(jM:fQ.cB)(a0:Int)(a1:az)(a2:ay):Option (Int):=
 jM a0 a1 a2 (1:Int) (0:Int)
def fQ(N:Nat)(a0:Int)(a1:az)(a2:ay):Option (Int):=fQ.b N (fQ.l3 N N) a0 a1 a2
abbrev ct.nB:=ax→(List (Int))→az→ay→ax→Int→Int→Bool→Int→Option (ax×(Int))
abbrev ct.rW:=ax→(List (Int))→az→ay→ax→Int→Int→Bool→Int→Option (ax×(Int))
abbrev ct.iS:=ax→(List (Int))→az→ay→ax→Int→Int→Bool→Int→Option (ax×(Int))
abbrev ct.bm:=ax→(List (Int))→az→ay→ax→Int→Option (ax×(Int))
def ct.sO(N:Nat)(bh:ct.bm)(vu:ct.nB)(x1:ax)(x2:List (Int))(x3:az)(x4:ay)(aN:ax)(bb:Int)(bs:Int)(bz:Bool)(jm:Int):Option (ax×(Int)):=
 cond (aL jm (List.length x4:Int)) (cond (bz) (vu x1 x2 x3 x4 aN bb bs true (W .i64 (jm+1))) (cond (aM jm (List.length x4)) (vu x1 x2 x3 x4 aN bb bs (aA ((((List.getD x4 jm.toNat aC).2).2).1) bb) (W .i64 (jm+1))) (none))) (cond (bz) ((fQ N bb x3 x4).bind fun tc=>let KM:Int:=mx bs tc;cond (small (List.length aN+List.length ([(bb,(KM,()))]))) (bh x1 x2 x3 x4 (aN++([(bb,(KM,()))])) (W .i64 (bb+1))) (none)) (bh x1 x2 x3 x4 aN (W .i64 (bb+1))))
def ct.vi(N:Nat)(bh:ct.bm):Nat→ct.nB
 |0,_,_,_,_,_,_,_,_,_=>none
 |n+1,x1,x2,x3,x4,aN,bb,bs,bz,jm=>ct.sO N bh (ct.vi N bh n) x1 x2 x3 x4 aN bb bs bz jm
def ct.zL(N:Nat)(Ao:ct.nB)(bh:ct.bm)(xi:ct.rW)(x1:ax)(x2:List (Int))(x3:az)(x4:ay)(aN:ax)(bb:Int)(bs:Int)(bz:Bool)(cw:Int):Option (ax×(Int)):=
 cond (aL cw (List.length x2:Int)) (cond (bz) (xi x1 x2 x3 x4 aN bb bs true (W .i64 (cw+1))) (cond (aM cw (List.length x2)) (xi x1 x2 x3 x4 aN bb bs (aA (List.getD x2 cw.toNat (0:Int)) bb) (W .i64 (cw+1))) (none))) (Ao x1 x2 x3 x4 aN bb bs bz (0:Int))
def ct.B8(N:Nat)(bh:ct.bm):Nat→ct.rW
 |0,_,_,_,_,_,_,_,_,_=>none
 |n+1,x1,x2,x3,x4,aN,bb,bs,bz,cw=>ct.zL N (ct.vi N bh N) bh (ct.B8 N bh n) x1 x2 x3 x4 aN bb bs bz cw
def ct.s0(N:Nat)(Gs:ct.rW)(bh:ct.bm)(nC:ct.iS)(x1:ax)(x2:List (Int))(x3:az)(x4:ay)(aN:ax)(bb:Int)(bs:Int)(bz:Bool)(cv:Int):Option (ax×(Int)):=
 cond (aL cv (List.length x1:Int)) (cond (aM cv (List.length x1)) (cond (aA ((List.getD x1 cv.toNat bR).1) bb) (cond (aM cv (List.length x1)) (nC x1 x2 x3 x4 aN bb (((List.getD x1 cv.toNat bR).2).1) true (W .i64 (cv+1))) (none)) (nC x1 x2 x3 x4 aN bb bs bz (W .i64 (cv+1)))) (none)) (Gs x1 x2 x3 x4 aN bb bs bz (0:Int))
def ct.l9(N:Nat)(bh:ct.bm):Nat→ct.iS
 |0,_,_,_,_,_,_,_,_,_=>none
 |n+1,x1,x2,x3,x4,aN,bb,bs,bz,cv=>ct.s0 N (ct.B8 N bh N) bh (ct.l9 N bh n) x1 x2 x3 x4 aN bb bs bz cv
def ct.dr(N:Nat)(tW:ct.iS)(bh:ct.bm)(x1:ax)(x2:List (Int))(x3:az)(x4:ay)(aN:ax)(bb:Int):Option (ax×(Int)):=
 cond (bX bb 12) (tW x1 x2 x3 x4 aN bb (0:Int) false (0:Int)) (some (aN,(0:Int)))
def ct.l5(N:Nat):Nat→ct.bm
 |0,_,_,_,_,_,_=>none
 |n+1,x1,x2,x3,x4,aN,bb=>ct.dr N (ct.l9 N (ct.l5 N n) N) (ct.l5 N n) x1 x2 x3 x4 aN bb
def ct.b(N:Nat)(dT:ct.bm)(a0:aa)(a1:ax)(a2:List (Int))(a3:az)(a4:ay):Option (ax×(Int)):=
 (lB N a1).bind fun r1=>cond (!r1) (some ([],(1:Int))) ((np N a2).bind fun r2=>cond (!r2) (some ([],(1:Int))) ((fv N a0 a3).bind fun r3=>cond (!r3) (some ([],(1:Int))) ((cW N a4).bind fun r4=>cond (!r4) (some ([],(1:Int))) (dT a1 a2 a3 a4 ([]) (1:Int)))))
def ct(N:Nat)(a0:aa)(a1:ax)(a2:List (Int))(a3:az)(a4:ay):Option (ax×(Int)):=ct.b N (ct.l5 N N) a0 a1 a2 a3 a4
def Jc(N:Nat)(a0:bg)(a1:ag)(a2:Int)(a3:Int)(a4:Int):Option bg:=
 (ov N a1.2.2.1 a3 a4).bind fun r1=>cond (aL 0 r1) (cond (small (List.length a0+List.length ([(a2,(a3,(a4,(r1,((0:Int),())))))]))) (some (a0++([(a2,(a3,(a4,(r1,((0:Int),())))))]))) (none)) (some a0)
def PN(N:Nat)(a0:Int):Option (Bool):=
 cond (aA a0 1) (some true) (some (aA a0 2))
abbrev nq.bk:=ax→Int→Int→Option (Int)
def nq.cY(N:Nat)(bA:nq.bk)(x0:ax)(x1:Int)(x5:Int):Option (Int):=
 cond (aL x5 (List.length x0:Int)) (cond (aM x5 (List.length x0)) (cond (aA ((List.getD x0 x5.toNat bR).1) x1) (cond (aM x5 (List.length x0)) (some (((List.getD x0 x5.toNat bR).2).1)) (none)) (bA x0 x1 (W .i64 (x5+1)))) (none)) (some (1:Int))
def nq.l4(N:Nat):Nat→nq.bk
 |0,_,_,_=>none
 |n+1,x0,x1,x5=>nq.cY N (nq.l4 N n) x0 x1 x5
def nq.b(N:Nat)(dG:nq.bk)(a0:ax)(a1:Int):Option (Int):=
 (lB N a0).bind fun r1=>cond (!r1) (some (0:Int)) (dG a0 a1 (0:Int))
def nq(N:Nat)(a0:ax)(a1:Int):Option (Int):=nq.b N (nq.l4 N N) a0 a1
abbrev nr.bm:=ax→Int→Int→ag→(List (Int))→Int→Option ((List (Int))×(Int))
def nr.dr(N:Nat)(bh:nr.bm)(x2:ax)(x3:Int)(x4:Int)(x6:ag)(aN:List (Int))(bb:Int):Option ((List (Int))×(Int)):=
 cond (aL bb (List.length x6.1:Int)) (cond (aM bb (List.length x6.1)) ((PN N (((List.getD x6.1 bb.toNat bR).2).1)).bind fun r4=>cond (r4) (cond (!aA ((List.getD x6.1 bb.toNat bR).1) x3) ((ov N x6.2.2.1 (6:Int) ((List.getD x6.1 bb.toNat bR).1)).bind fun r5=>cond (aL 0 r5) ((nq N x2 ((List.getD x6.1 bb.toNat bR).1)).bind fun r6=>cond (aA r6 x4) (cond (small (List.length aN+List.length ([(List.getD x6.1 bb.toNat bR).1]))) (bh x2 x3 x4 x6 (aN++([(List.getD x6.1 bb.toNat bR).1])) (W .i64 (bb+1))) (none)) (bh x2 x3 x4 x6 aN (W .i64 (bb+1)))) (bh x2 x3 x4 x6 aN (W .i64 (bb+1)))) (bh x2 x3 x4 x6 aN (W .i64 (bb+1)))) (bh x2 x3 x4 x6 aN (W .i64 (bb+1)))) (none)) (some (aN,(0:Int)))
def nr.l5(N:Nat):Nat→nr.bm
 |0,_,_,_,_,_,_=>none
 |n+1,x2,x3,x4,x6,aN,bb=>nr.dr N (nr.l5 N n) x2 x3 x4 x6 aN bb
def nr.b(N:Nat)(dT:nr.bm)(a0:aa)(a1:ag)(a2:ax)(a3:Int)(a4:Int):Option ((List (Int))×(Int)):=
 (bI N a0 a1).bind fun r1=>cond (!r1) (some ([],(1:Int))) ((lB N a2).bind fun r2=>cond (!r2) (some ([],(1:Int))) (dT a2 a3 a4 a1 ([]) (0:Int)))
def nr(N:Nat)(a0:aa)(a1:ag)(a2:ax)(a3:Int)(a4:Int):Option ((List (Int))×(Int)):=nr.b N (nr.l5 N N) a0 a1 a2 a3 a4
abbrev ch.je:=Int→ax→ax→aa→ag→bg→Int→(List (Int))→Int→Option (bg×(Int))
abbrev ch.Am:=Int→ax→ag→bg→Int→Option (bg×(Int))
abbrev ch.pq:=Int→ax→aa→ag→bg→Int→Option (bg×(Int))
abbrev ch.fT:=Int→ax→ax→aa→ag→bg→Int→Option (bg×(Int))
abbrev ch.Jp:=Int→ax→ax→aa→ag→bg→Option (bg×(Int))
def ch.rF(N:Nat)(iv:ch.fT)(jY:ch.je)(x2:Int)(x3:ax)(x4:ax)(x5:aa)(x6:ag)(aN:bg)(bs:Int)(bz:List (Int))(cw:Int):Option (bg×(Int)):=
 cond (aL cw (List.length bz:Int)) (cond (aM cw (List.length bz)) ((Jc N aN x6 (W .i64 ((W .i64 ((4:Int)+bs))-1)) (6:Int) (List.getD bz cw.toNat (0:Int))).bind fun tc=>jY x2 x3 x4 x5 x6 tc bs bz (W .i64 (cw+1))) (none)) (iv x2 x3 x4 x5 x6 aN (W .i64 (bs+1)))
def ch.sL(N:Nat)(iv:ch.fT):Nat→ch.je
 |0,_,_,_,_,_,_,_,_,_=>none
 |n+1,x2,x3,x4,x5,x6,aN,bs,bz,cw=>ch.rF N iv (ch.sL N iv n) x2 x3 x4 x5 x6 aN bs bz cw
def ch.Fw(N:Nat)(xf:ch.Am)(x2:Int)(x4:ax)(x6:ag)(aN:bg)(MV:Int):Option (bg×(Int)):=
 cond (aL MV (List.length x4:Int)) (cond (aM MV (List.length x4)) ((zj N x6.2.1 ((List.getD x4 MV.toNat bR).1)).bind fun KN=>cond (aM MV (List.length x4)) (cond (aM MV (List.length x4)) ((ov N x6.2.2.1 (5:Int) ((List.getD x4 MV.toNat bR).1)).bind fun r32=>let v33:Int:=mn (((List.getD x4 MV.toNat bR).2).1) r32;cond (KN.2) (cond (!aA KN.1.2.1 x2) (cond (aL 0 v33) (cond (small (List.length aN+List.length ([((9:Int),((5:Int),(KN.1.1,(v33,((0:Int),())))))]))) (xf x2 x4 x6 (aN++([((9:Int),((5:Int),(KN.1.1,(v33,((0:Int),())))))])) (W .i64 (MV+1))) (none)) (xf x2 x4 x6 aN (W .i64 (MV+1)))) (xf x2 x4 x6 aN (W .i64 (MV+1)))) (xf x2 x4 x6 aN (W .i64 (MV+1)))) (none)) (none)) (none)) (some (aN,(0:Int)))
def ch.IJ(N:Nat):Nat→ch.Am
 |0,_,_,_,_,_=>none
 |n+1,x2,x4,x6,aN,MV=>ch.Fw N (ch.IJ N n) x2 x4 x6 aN MV
def ch.I9(N:Nat)(Qf:ch.Am)(jg:ch.pq)(x2:Int)(x4:ax)(x5:aa)(x6:ag)(aN:bg)(jm:Int):Option (bg×(Int)):=
 cond (aL jm (List.length x6.1:Int)) (cond (aM jm (List.length x6.1)) ((PN N (((List.getD x6.1 jm.toNat bR).2).1)).bind fun DG=>cond (!DG) (jg x2 x4 x5 x6 aN (W .i64 (jm+1))) (cond (aA ((List.getD x6.1 jm.toNat bR).1) x2) (jg x2 x4 x5 x6 aN (W .i64 (jm+1))) ((fu N x5.2.2.1).bind fun D4=>(ov N x6.2.2.1 (6:Int) ((List.getD x6.1 jm.toNat bR).1)).bind fun xQ=>(fu N xQ).bind fun AI=>(gj N D4 AI).bind fun D3=>(rz N D3).bind fun xg=>cond (!xg.2) (some ([],(2:Int))) (cond (aL 0 xg.1) (cond (small (List.length aN+List.length ([((8:Int),((7:Int),((List.getD x6.1 jm.toNat bR).1,(xg.1,((0:Int),())))))]))) (jg x2 x4 x5 x6 (aN++([((8:Int),((7:Int),((List.getD x6.1 jm.toNat bR).1,(xg.1,((0:Int),())))))])) (W .i64 (jm+1))) (none)) (jg x2 x4 x5 x6 aN (W .i64 (jm+1))))))) (none)) (Qf x2 x4 x6 aN (0:Int))
def ch.Dv(N:Nat):Nat→ch.pq
 |0,_,_,_,_,_,_=>none
 |n+1,x2,x4,x5,x6,aN,jm=>ch.I9 N (ch.IJ N N) (ch.Dv N n) x2 x4 x5 x6 aN jm
def ch.mf(N:Nat)(Ak:ch.je)(Qo:ch.pq)(iv:ch.fT)(x2:Int)(x3:ax)(x4:ax)(x5:aa)(x6:ag)(aN:bg)(bs:Int):Option (bg×(Int)):=
 cond (bX bs 4) ((nr N x5 x6 x3 x2 bs).bind fun lW=>Ak x2 x3 x4 x5 x6 aN bs lW.1 (0:Int)) (Qo x2 x4 x5 x6 aN (0:Int))
def ch.nE(N:Nat):Nat→ch.fT
 |0,_,_,_,_,_,_,_=>none
 |n+1,x2,x3,x4,x5,x6,aN,bs=>ch.mf N (ch.sL N (ch.nE N n) N) (ch.Dv N N) (ch.nE N n) x2 x3 x4 x5 x6 aN bs
def ch.Is(N:Nat)(rU:ch.fT)(x2:Int)(x3:ax)(x4:ax)(x5:aa)(x6:ag)(aN:bg):Option (bg×(Int)):=
 (Jc N aN x6 (2:Int) (6:Int) x2).bind fun r8=>(Jc N r8 x6 (3:Int) (3:Int) (0:Int)).bind fun r9=>rU x2 x3 x4 x5 x6 r9 (1:Int)
def ch.j9(N:Nat)(x2:Int)(x3:ax)(x4:ax)(x5:aa)(x6:ag)(aN:bg):Option (bg×(Int)):=ch.Is N (ch.nE N N) x2 x3 x4 x5 x6 aN
def ch.b(N:Nat)(Ap:ch.Jp)(a0:aa)(a1:ag)(a2:Int)(a3:ax)(a4:ax):Option (bg×(Int)):=
 (bI N a0 a1).bind fun r1=>cond (!r1) (some ([],(1:Int))) ((lB N a3).bind fun r2=>cond (!r2) (some ([],(1:Int))) ((mq N a4).bind fun r3=>cond (!r3) (some ([],(1:Int))) ((uW N a1.1 a2).bind fun r4=>cond (aA r4 0) (some ([],(3:Int))) ((sK N a1.2.1 a2).bind fun r5=>cond (!aA r5 0) ((Jc N ([]) a1 (1:Int) (5:Int) r5).bind fun r6=>Ap a2 a3 a4 a0 a1 r6) (Ap a2 a3 a4 a0 a1 ([]))))))
def ch(N:Nat)(a0:aa)(a1:ag)(a2:Int)(a3:ax)(a4:ax):Option (bg×(Int)):=ch.b N (ch.j9 N) a0 a1 a2 a3 a4
def SY(N:Nat)(a0:aa)(a1:ag):Option ((Int)×(Int)):=
 (bI N a0 a1).bind fun r1=>cond (!r1) (some ((0:Int),(1:Int))) ((ov N a1.2.2.1 (2:Int) (0:Int)).bind fun r2=>cond (aA r2 (-9223372036854775808)) (some ((0:Int),(2:Int))) (some ((mx (W .i64 (0-r2)) (0:Int)),(0:Int))))
abbrev ns.bk:=bg→Int→Option (Bool)
def ns.cY(N:Nat)(bA:ns.bk)(x0:bg)(x3:Int):Option (Bool):=
 cond (aL x3 (List.length x0:Int)) (cond (aM x3 (List.length x0)) (cond (aL ((List.getD x0 x3.toNat j1).1) (1:Int)) (some false) (cond (aL 9 ((List.getD x0 x3.toNat j1).1)) (some false) ((Ix N (((List.getD x0 x3.toNat j1).2).1) ((((List.getD x0 x3.toNat j1).2).2).1)).bind fun r2=>cond (!r2) (some false) (cond (aL (((((List.getD x0 x3.toNat j1).2).2).2).1) (1:Int)) (some false) (cond (aL ((((((List.getD x0 x3.toNat j1).2).2).2).2).1) (0:Int)) (some false) (cond (aL (((((List.getD x0 x3.toNat j1).2).2).2).1) ((((((List.getD x0 x3.toNat j1).2).2).2).2).1)) (some false) (cond (aL 0 x3) (let v3:Int:=W .i64 (x3-1);cond (aM v3 (List.length x0)) (cond (aL ((List.getD x0 x3.toNat j1).1) ((List.getD x0 v3.toNat j1).1)) (some false) (let v4:Int:=W .i64 (x3-1);cond (aM v4 (List.length x0)) (cond (aA ((List.getD x0 x3.toNat j1).1) ((List.getD x0 v4.toNat j1).1)) (let v5:Int:=W .i64 (x3-1);cond (aM v5 (List.length x0)) (cond (!aA (((List.getD x0 x3.toNat j1).2).1) (((List.getD x0 v5.toNat j1).2).1)) (some false) (let v6:Int:=W .i64 (x3-1);cond (aM v6 (List.length x0)) (cond (bX ((((List.getD x0 x3.toNat j1).2).2).1) ((((List.getD x0 v6.toNat j1).2).2).1)) (some false) (bA x0 (W .i64 (x3+1)))) (none))) (none)) (bA x0 (W .i64 (x3+1)))) (none))) (none)) (bA x0 (W .i64 (x3+1)))))))))) (none)) (some true)
def ns.l4(N:Nat):Nat→ns.bk
 |0,_,_=>none
 |n+1,x0,x3=>ns.cY N (ns.l4 N n) x0 x3
def ns.b(N:Nat)(dG:ns.bk)(a0:bg):Option (Bool):=
 cond (aL 64 (List.length a0:Int)) (some false) (dG a0 (0:Int))
def ns(N:Nat)(a0:bg):Option (Bool):=ns.b N (ns.l4 N N) a0
abbrev cF.nB:=bg→Int→Int→Int→(List (Int))→Int→Option (bg×(Int)×(Int))
abbrev cF.Gp:=bg→Int→Int→Int→(List (Int))→Option (bg×(Int)×(Int))
abbrev cF.fL:=bg→Int→Int→Int→(List (Int))→Option (bg×(Int)×(Int))
abbrev cF.bm:=bg→Int→Int→Option (bg×(Int)×(Int))
def cF.sO(N:Nat)(bh:cF.bm)(vu:cF.nB)(x7:bg)(x8:Int)(x9:Int)(aQ:Int)(bs:List (Int))(cv:Int):Option (bg×(Int)×(Int)):=
 cond (aL cv aQ) (let Gn:Int:=W .i64 (cv-x9);cond (aM Gn (List.length bs)) (cond (aM cv (List.length x7)) (let v15:Int:=W .i64 (cv-x9);cond (aM v15 (List.length bs)) (vu (List.set x7 cv.toNat ((List.getD x7 cv.toNat j1).1,(((List.getD x7 cv.toNat j1).2).1,((((List.getD x7 cv.toNat j1).2).2).1,(((((List.getD x7 cv.toNat j1).2).2).2).1,(List.getD bs Gn.toNat (0:Int),(((((List.getD x7 cv.toNat j1).2).2).2).2).2)))))) (W .i64 (x8-(List.getD bs v15.toNat (0:Int)))) x9 aQ bs (W .i64 (cv+1))) (none)) (none)) (none)) (bh x7 x8 aQ)
def cF.vi(N:Nat)(bh:cF.bm):Nat→cF.nB
 |0,_,_,_,_,_,_=>none
 |n+1,x7,x8,x9,aQ,bs,cv=>cF.sO N bh (cF.vi N bh n) x7 x8 x9 aQ bs cv
def cF.zU(N:Nat)(Ao:cF.nB)(bh:cF.bm)(x7:bg)(x8:Int)(x9:Int)(aQ:Int)(aF:List (Int)):Option (bg×(Int)×(Int)):=
 (lJ N aF).bind fun r8=>(rz N r8).bind fun r9=>cond (!r9.2) (some ([],(0:Int),(2:Int))) ((dD N (mn r9.1 x8) aF).bind fun lW=>cond (!aA lW.2 0) (some ([],(0:Int),lW.2)) (Ao x7 x8 x9 aQ lW.1 x9))
def cF.HT(N:Nat)(bh:cF.bm)(x7:bg)(x8:Int)(x9:Int)(aQ:Int)(aF:List (Int)):Option (bg×(Int)×(Int)):=cF.zU N (cF.vi N bh N) bh x7 x8 x9 aQ aF
def cF.yh(N:Nat)(xh:cF.Gp)(bh:cF.bm)(dI:cF.fL)(x7:bg)(x8:Int)(x9:Int)(aQ:Int)(aF:List (Int)):Option (bg×(Int)×(Int)):=
 cond (aL aQ (List.length x7:Int)) (cond (aM aQ (List.length x7)) (cond (aM x9 (List.length x7)) (cond (aA ((List.getD x7 aQ.toNat j1).1) ((List.getD x7 x9.toNat j1).1)) (cond (aM aQ (List.length x7)) (cond (small (List.length aF+List.length ([((((List.getD x7 aQ.toNat j1).2).2).2).1]))) (dI x7 x8 x9 (W .i64 (aQ+1)) (aF++([((((List.getD x7 aQ.toNat j1).2).2).2).1]))) (none)) (none)) (xh x7 x8 x9 aQ aF)) (none)) (none)) (xh x7 x8 x9 aQ aF)
def cF.l8(N:Nat)(bh:cF.bm):Nat→cF.fL
 |0,_,_,_,_,_=>none
 |n+1,x7,x8,x9,aQ,aF=>cF.yh N (cF.HT N bh) bh (cF.l8 N bh n) x7 x8 x9 aQ aF
def cF.dr(N:Nat)(Aq:cF.fL)(bh:cF.bm)(x7:bg)(x8:Int)(x9:Int):Option (bg×(Int)×(Int)):=
 cond (aL x9 (List.length x7:Int)) (Aq x7 x8 x9 x9 ([])) (some (x7,x8,(0:Int)))
def cF.l5(N:Nat):Nat→cF.bm
 |0,_,_,_=>none
 |n+1,x7,x8,x9=>cF.dr N (cF.l8 N (cF.l5 N n) N) (cF.l5 N n) x7 x8 x9
def cF.b(N:Nat)(dT:cF.bm)(a0:bg)(a1:Int):Option (bg×(Int)×(Int)):=
 (ns N a0).bind fun r1=>cond (!r1) (some ([],(0:Int),(1:Int))) (cond (aL a1 0) (some ([],(0:Int),(1:Int))) (cond (small (List.length xl+List.length a0)) (dT (xl++a0) a1 (0:Int)) (none)))
def cF(N:Nat)(a0:bg)(a1:Int):Option (bg×(Int)×(Int)):=cF.b N (cF.l5 N N) a0 a1
def SZ(N:Nat)(a0:aa)(a1:ag):Option ((Int)×(Int)):=
 (bI N a0 a1).bind fun r1=>cond (!r1) (some ((0:Int),(1:Int))) ((ov N a1.2.2.1 (2:Int) (0:Int)).bind fun r2=>some ((mx r2 0),(0:Int)))
abbrev gZ.afy:=ag→ag→cT→bl→cT→bg→Int→Int→Int→Option (ag×cT×(Int))
abbrev gZ.jK:=Int→aa→ag→ag→cT→bg→Int→bl→cT→bg→Int→Option (ag×cT×(Int))
def gZ.ZR(N:Nat)(x6:ag)(aQ:ag)(aF:cT)(jm:bl)(lF:cT)(Av:bg)(x21:Int)(x23:Int)(x24:Int):Option (ag×cT×(Int)):=
 (fu N x21).bind fun tb=>(zV N (2:Int) (0:Int) x23 x24 tb).bind fun ug=>cond (small (List.length jm+List.length ug)) ((zS N x6 ba (jm++ug)).bind fun Cp=>cond (!aA Cp.2 0) (some ((aS,(cj,(ba,(ba,(cI,(cL,())))))),((0:Int),((0:Int),(xl,((0:Int),())))),Cp.2)) (some (Cp.1,(lF.1,(lF.2.1,(Av,lF.2.2.2))),(0:Int)))) (none)
def gZ.j26(N:Nat)(x6:ag)(aQ:ag)(aF:cT)(jm:bl)(lF:cT)(Av:bg)(x21:Int)(x23:Int)(x24:Int):Option (ag×cT×(Int)):=gZ.ZR N x6 aQ aF jm lF Av x21 x23 x24
def gZ.zR(N:Nat)(XQ:gZ.afy)(gJ:gZ.jK)(x2:Int)(x5:aa)(x6:ag)(aQ:ag)(aF:cT)(bb:bg)(cw:Int)(jm:bl)(lF:cT)(Av:bg)(HX:Int):Option (ag×cT×(Int)):=
 cond (aL HX (List.length bb:Int)) (cond (aM HX (List.length bb)) (cond (aL 0 ((((((List.getD bb HX.toNat j1).2).2).2).2).1)) (cond (aM HX (List.length bb)) (cond (small (List.length Av+List.length ([List.getD bb HX.toNat j1]))) (cond (aM HX (List.length bb)) (cond (aM HX (List.length bb)) (cond (aM HX (List.length bb)) ((fu N ((((((List.getD bb HX.toNat j1).2).2).2).2).1)).bind fun r6=>(zV N (((List.getD bb HX.toNat j1).2).1) ((((List.getD bb HX.toNat j1).2).2).1) (2:Int) (0:Int) r6).bind fun r7=>cond (small (List.length jm+List.length r7)) (gJ x2 x5 x6 aQ aF bb cw (jm++r7) (lF.1,(lF.2.1,(xl,lF.2.2.2))) (Av++([List.getD bb HX.toNat j1])) (W .i64 (HX+1))) (none)) (none)) (none)) (none)) (none)) (none)) (gJ x2 x5 x6 aQ aF bb cw jm lF Av (W .i64 (HX+1)))) (none)) ((fu N cw).bind fun lW=>(zV N (4:Int) (0:Int) (2:Int) (0:Int) lW).bind fun mK=>cond (small (List.length jm+List.length mK)) (let Gn:List ((Int)×((Int)×(((Bool)×((List (Int))×(Unit)))×(Unit)))):=jm++mK;(SZ N x5 x6).bind fun sP=>(sK N x6.2.1 x2).bind fun tc=>cond (!aA tc 0) (XQ x6 aQ aF Gn lF Av sP.1 (5:Int) tc) (XQ x6 aQ aF Gn lF Av sP.1 (6:Int) x2)) (none))
def gZ.Be(N:Nat):Nat→gZ.jK
 |0,_,_,_,_,_,_,_,_,_,_,_=>none
 |n+1,x2,x5,x6,aQ,aF,bb,cw,jm,lF,Av,HX=>gZ.zR N (gZ.j26 N) (gZ.Be N n) x2 x5 x6 aQ aF bb cw jm lF Av HX
def gZ.b(N:Nat)(Gq:gZ.jK)(a0:aa)(a1:ag)(a2:Int)(a3:ax)(a4:ax):Option (ag×cT×(Int)):=
 (ch N a0 a1 a2 a3 a4).bind fun r1=>cond (aA r1.2 1) (some ((aS,(cj,(ba,(ba,(cI,(cL,())))))),((0:Int),((0:Int),(xl,((0:Int),())))),r1.2)) (cond (aA r1.2 3) (some ((aS,(cj,(ba,(ba,(cI,(cL,())))))),((0:Int),((0:Int),(xl,((0:Int),())))),r1.2)) ((SY N a0 a1).bind fun r2=>cond (!aA r2.2 0) (some ((aS,(cj,(ba,(ba,(cI,(cL,())))))),((0:Int),((0:Int),(xl,((0:Int),())))),r2.2)) (cond (!aA r1.2 0) (some ((aS,(cj,(ba,(ba,(cI,(cL,())))))),((0:Int),((0:Int),(xl,((0:Int),())))),r1.2)) ((cF N r1.1 r2.1).bind fun r3=>cond (!aA r3.2.2 0) (some ((aS,(cj,(ba,(ba,(cI,(cL,())))))),((0:Int),((0:Int),(xl,((0:Int),())))),r3.2.2)) (Gq a2 a0 a1 (aS,(cj,(ba,(ba,(cI,(cL,())))))) ((0:Int),((0:Int),(xl,((0:Int),())))) r3.1 r3.2.1 ([]) (a2,(r2.1,(xl,(r3.2.1,())))) xl (0:Int))))))
def gZ(N:Nat)(a0:aa)(a1:ag)(a2:Int)(a3:ax)(a4:ax):Option (ag×cT×(Int)):=gZ.b N (gZ.Be N N) a0 a1 a2 a3 a4
abbrev c4.lV:=(List (Int))→(List (Int))→(List (Int))→Int→Int→(List (Int))→Int→Option ((List (Int))×(Int)×(Int))
abbrev c4.fT:=(List (Int))→(List (Int))→(List (Int))→Int→Int→(List (Int))→Bool→Int→Option ((List (Int))×(Int)×(Int))
abbrev c4.fL:=(List (Int))→(List (Int))→(List (Int))→Int→Int→Option ((List (Int))×(Int)×(Int))
def c4.zs(N:Nat)(dI:c4.fL)(lX:c4.lV)(x1:List (Int))(x2:List (Int))(aF:List (Int))(aN:Int)(bb:Int)(cw:List (Int))(lF:Int):Option ((List (Int))×(Int)×(Int)):=
 cond (aL lF (List.length x1:Int)) (cond (aM lF (List.length cw)) (cond (aM lF (List.length x2)) (cond (aM lF (List.length aF)) (let KM:Int:=mn (List.getD cw lF.toNat (0:Int)) (W .i64 ((List.getD x2 lF.toNat (0:Int))-(List.getD aF lF.toNat (0:Int))));cond (aM lF (List.length aF)) (cond (aM lF (List.length aF)) (lX x1 x2 (List.set aF lF.toNat (W .i64 ((List.getD aF lF.toNat (0:Int))+KM))) (W .i64 (aN-KM)) bb cw (W .i64 (lF+1))) (none)) (none)) (none)) (none)) (none)) (dI x1 x2 aF aN (W .i64 (bb+1)))
def c4.AG(N:Nat)(dI:c4.fL):Nat→c4.lV
 |0,_,_,_,_,_,_,_=>none
 |n+1,x1,x2,aF,aN,bb,cw,lF=>c4.zs N dI (c4.AG N dI n) x1 x2 aF aN bb cw lF
def c4.mf(N:Nat)(Gm:c4.lV)(dI:c4.fL)(iv:c4.fT)(x1:List (Int))(x2:List (Int))(aF:List (Int))(aN:Int)(bb:Int)(bs:List (Int))(bz:Bool)(cv:Int):Option ((List (Int))×(Int)×(Int)):=
 cond (aL cv (List.length x1:Int)) (cond (aM cv (List.length x1)) (cond (aL 0 (List.getD x1 cv.toNat (0:Int))) (cond (aM cv (List.length aF)) (cond (aM cv (List.length x2)) (cond (aL (List.getD aF cv.toNat (0:Int)) (List.getD x2 cv.toNat (0:Int))) (cond (aM cv (List.length x1)) (cond (aM cv (List.length bs)) (iv x1 x2 aF aN bb (List.set bs cv.toNat (List.getD x1 cv.toNat (0:Int))) true (W .i64 (cv+1))) (none)) (none)) (iv x1 x2 aF aN bb bs bz (W .i64 (cv+1)))) (none)) (none)) (iv x1 x2 aF aN bb bs bz (W .i64 (cv+1)))) (none)) (cond (aA aN 0) (some (aF,aN,(0:Int))) (cond (!bz) (some (aF,aN,(0:Int))) ((dD N aN bs).bind fun lD=>Gm x1 x2 aF aN bb lD.1 (0:Int))))
def c4.nE(N:Nat)(dI:c4.fL):Nat→c4.fT
 |0,_,_,_,_,_,_,_,_=>none
 |n+1,x1,x2,aF,aN,bb,bs,bz,cv=>c4.mf N (c4.AG N dI N) dI (c4.nE N dI n) x1 x2 aF aN bb bs bz cv
def c4.yh(N:Nat)(rU:c4.fT)(dI:c4.fL)(x1:List (Int))(x2:List (Int))(aF:List (Int))(aN:Int)(bb:Int):Option ((List (Int))×(Int)×(Int)):=
 cond (bX bb (List.length x1:Int)) (cond (gm (List.length x1:Int) (List.length x1:Int)) (rU x1 x2 aF aN bb (List.replicate (List.length x1:Int).toNat (0:Int)) false (0:Int)) (none)) (some (aF,aN,(0:Int)))
def c4.l8(N:Nat):Nat→c4.fL
 |0,_,_,_,_,_=>none
 |n+1,x1,x2,aF,aN,bb=>c4.yh N (c4.nE N (c4.l8 N n) N) (c4.l8 N n) x1 x2 aF aN bb
def c4.b(N:Nat)(Aq:c4.fL)(a0:Int)(a1:List (Int))(a2:List (Int)):Option ((List (Int))×(Int)×(Int)):=
 (lO N a0 a1).bind fun r1=>cond (r1) (some ([],(0:Int),(1:Int))) (cond (!aA (List.length a2:Int) (List.length a1:Int)) (some ([],(0:Int),(1:Int))) ((lO N (0:Int) a2).bind fun r2=>cond (r2) (some ([],(0:Int),(1:Int))) ((lJ N a1).bind fun r3=>(rz N r3).bind fun r4=>cond (!r4.2) (some ([],(0:Int),(2:Int))) (cond (gm (List.length a1:Int) (List.length a1:Int)) (Aq a1 a2 (List.replicate (List.length a1:Int).toNat (0:Int)) a0 (0:Int)) (none)))))
def c4(N:Nat)(a0:Int)(a1:List (Int))(a2:List (Int)):Option ((List (Int))×(Int)×(Int)):=c4.b N (c4.l8 N N) a0 a1 a2
abbrev ql.Qp:=Int→Int→(List (Int))→(List (Int))→aj→Int→Option (aj×(Int))
abbrev ql.fp:=Int→ag→Int→(List (Int))→(List (Int))→Int→Option (aj×(Int))
def ql.ZT(N:Nat)(KO:ql.Qp)(x2:Int)(x8:Int)(x9:List (Int))(bb:List (Int))(cv:aj)(cw:Int):Option (aj×(Int)):=
 cond (aL cw (List.length bb:Int)) (cond (aM cw (List.length bb)) (cond (aL x8 0) (let v17:Int:=W .i64 (0-(List.getD bb cw.toNat (0:Int)));cond (!aA v17 0) (cond (aM cw (List.length x9)) (cond (small (List.length cv+List.length ([(List.getD x9 cw.toNat (0:Int),(x2,(v17,())))]))) (KO x2 x8 x9 bb (cv++([(List.getD x9 cw.toNat (0:Int),(x2,(v17,())))])) (W .i64 (cw+1))) (none)) (none)) (KO x2 x8 x9 bb cv (W .i64 (cw+1)))) (cond (!aA (List.getD bb cw.toNat (0:Int)) (0:Int)) (cond (aM cw (List.length x9)) (cond (small (List.length cv+List.length ([(List.getD x9 cw.toNat (0:Int),(x2,(List.getD bb cw.toNat (0:Int),())))]))) (KO x2 x8 x9 bb (cv++([(List.getD x9 cw.toNat (0:Int),(x2,(List.getD bb cw.toNat (0:Int),())))])) (W .i64 (cw+1))) (none)) (none)) (KO x2 x8 x9 bb cv (W .i64 (cw+1))))) (none)) (some (cv,(0:Int)))
def ql.ZS(N:Nat):Nat→ql.Qp
 |0,_,_,_,_,_,_=>none
 |n+1,x2,x8,x9,bb,cv,cw=>ql.ZT N (ql.ZS N n) x2 x8 x9 bb cv cw
def ql.tR(N:Nat)(afz:ql.Qp)(dq:ql.fp)(x2:Int)(x4:ag)(x8:Int)(x9:List (Int))(aQ:List (Int))(aF:Int):Option (aj×(Int)):=
 cond (aL aF (List.length x4.2.2.2.1:Int)) (cond (aM aF (List.length x4.2.2.2.1)) (cond (!aA ((List.getD x4.2.2.2.1 aF.toNat aZ).1) (0:Int)) (cond (aA (((List.getD x4.2.2.2.1 aF.toNat aZ).2).1) x2) (cond (!(qQ .bool (aL 0 ((((List.getD x4.2.2.2.1 aF.toNat aZ).2).2).1)) (aL 0 x8))) (cond (small (List.length x9+List.length ([(List.getD x4.2.2.2.1 aF.toNat aZ).1]))) (let v6:Int:=mx ((((List.getD x4.2.2.2.1 aF.toNat aZ).2).2).1) (W .i64 (0-((((List.getD x4.2.2.2.1 aF.toNat aZ).2).2).1)));cond (small (List.length aQ+List.length ([v6]))) (dq x2 x4 x8 (x9++([(List.getD x4.2.2.2.1 aF.toNat aZ).1])) (aQ++([v6])) (W .i64 (aF+1))) (none)) (none)) (dq x2 x4 x8 x9 aQ (W .i64 (aF+1)))) (dq x2 x4 x8 x9 aQ (W .i64 (aF+1)))) (dq x2 x4 x8 x9 aQ (W .i64 (aF+1)))) (none)) ((c4 N (mx x8 (W .i64 (0-x8))) aQ aQ).bind fun sP=>cond (!aA sP.2.2 0) (some ([],sP.2.2)) (afz x2 x8 x9 sP.1 ([((0:Int),(x2,((W .i64 (0-x8)),())))]) (0:Int)))
def ql.ue(N:Nat):Nat→ql.fp
 |0,_,_,_,_,_,_=>none
 |n+1,x2,x4,x8,x9,aQ,aF=>ql.tR N (ql.ZS N N) (ql.ue N n) x2 x4 x8 x9 aQ aF
def ql.b(N:Nat)(Au:ql.fp)(a0:aa)(a1:ag)(a2:Int):Option (aj×(Int)):=
 (bI N a0 a1).bind fun r1=>cond (!r1) (some ([],(1:Int))) (cond (aL a2 0) (some ([],(3:Int))) (cond (bX (List.length a0.1:Int) a2) (some ([],(3:Int))) ((s8 N a1.2.2.2.1 (0:Int) a2).bind fun r2=>cond (aA r2 0) (some ([],(0:Int))) (Au a2 a1 r2 ([]) ([]) (0:Int)))))
def ql(N:Nat)(a0:aa)(a1:ag)(a2:Int):Option (aj×(Int)):=ql.b N (ql.ue N N) a0 a1 a2
abbrev zY.bm:=aa→ag→ag→aj→Int→Option (ag×(Int))
def zY.dr(N:Nat)(bh:zY.bm)(x2:aa)(x3:ag)(x4:ag)(x6:aj)(x7:Int):Option (ag×(Int)):=
 cond (aL x7 (List.length x2.1:Int)) ((ql N x2 x3 x7).bind fun r3=>cond (!aA r3.2 0) (some ((aS,(cj,(ba,(ba,(cI,(cL,())))))),r3.2)) (cond (small (List.length x6+List.length r3.1)) (bh x2 x3 x4 (x6++r3.1) (W .i64 (x7+1))) (none))) ((zS N x3 x6 ([]:List ((Int)×((Int)×(((Bool)×((List (Int))×(Unit)))×(Unit)))))).bind fun r6=>some (r6.1,r6.2))
def zY.l5(N:Nat):Nat→zY.bm
 |0,_,_,_,_,_=>none
 |n+1,x2,x3,x4,x6,x7=>zY.dr N (zY.l5 N n) x2 x3 x4 x6 x7
def zY.b(N:Nat)(dT:zY.bm)(a0:aa)(a1:ag):Option (ag×(Int)):=
 (bI N a0 a1).bind fun r1=>cond (!r1) (some ((aS,(cj,(ba,(ba,(cI,(cL,())))))),(1:Int))) (dT a0 a1 (aS,(cj,(ba,(ba,(cI,(cL,())))))) ([]) (0:Int))
def zY(N:Nat)(a0:aa)(a1:ag):Option (ag×(Int)):=zY.b N (zY.l5 N N) a0 a1
abbrev nv.Qq:=aE→aE→cE→az→Int→Int→Option (aE×cE)
def nv.ZU(N:Nat)(XR:nv.Qq)(x4:aE)(x6:aE)(x7:cE)(bs:az)(cv:Int)(cw:Int):Option (aE×cE):=
 cond (aL cw (List.length bs:Int)) (cond (aM cw (List.length bs)) (cond (aA (((((List.getD bs cw.toNat ((0:Int),(aS,aC))).2).2).2).1) (2:Int)) (XR x4 x6 x7 bs (W .i64 (cv+1)) (W .i64 (cw+1))) (XR x4 x6 x7 bs cv (W .i64 (cw+1)))) (none)) (some (x4,((0:Int),(cv,((0:Int),())))))
def nv.l41(N:Nat):Nat→nv.Qq
 |0,_,_,_,_,_,_=>none
 |n+1,x4,x6,x7,bs,cv,cw=>nv.ZU N (nv.l41 N n) x4 x6 x7 bs cv cw
def nv.b(N:Nat)(afA:nv.Qq)(a0:aa)(a1:aE)(a2:fK):Option (aE×cE):=
 cond (aA a2.1 14) ((SU N a0 a1.2.2.1 a1.2.2.2.1.1 a2.2.1 a2.2.2.1).bind fun r1=>(eh N r1.2).bind fun r2=>some ((a1.1,(a1.2.1,(r1.1,a1.2.2.2))),r2)) (cond (aA a2.1 15) ((fR N a0 a1.2.2.1 a1.2.2.2.1.1).bind fun r3=>(eh N r3.2).bind fun r4=>some ((a1.1,(a1.2.1,(r3.1,((a1.2.2.2.1.1,((2:Int),((0:Int),a1.2.2.2.1.2.2.2))),a1.2.2.2.2)))),r4)) (cond (aA a2.1 16) ((qi N a0 a1.2.2.1 a1.2.1).bind fun r5=>some ((a1.1,((W .i64 (a1.2.1+(List.length r5.1:Int))),(a1.2.2.1,((a1.2.2.2.1.1,(a1.2.2.2.1.2.1,(a1.2.2.2.1.2.2.1,(a1.2.2.2.1.2.2.2.1,(r5.1,a1.2.2.2.1.2.2.2.2.2))))),a1.2.2.2.2)))),(r5.2,((List.length r5.1:Int),((0:Int),()))))) (cond (aA a2.1 17) ((nu N a0 a1 a2).bind fun r7=>some (r7.1,r7.2)) (cond (aA a2.1 18) (cond (aA a1.2.2.2.1.2.2.2.1 3) ((eh N (5:Int)).bind fun r8=>some (a1,r8)) ((cQ N a0 a1.2.2.1 a1.2.1).bind fun r9=>cond (!aA r9.2 0) ((eh N r9.2).bind fun jL=>some (a1,jL)) ((MH N a1 a0.2.2.2.2.1).bind fun lW=>cond (!lW.2) ((eh N (2:Int)).bind fun mK=>some (a1,mK)) ((nn N a0 a1.2.2.1).bind fun sP=>some ((a1.1,((W .i64 (a1.2.1+(List.length r9.1:Int))),(a1.2.2.1,((a1.2.2.2.1.1,((3:Int),(lW.1,((W .i64 (a1.2.2.2.1.2.2.2.1+1)),(cj,(r9.1,(cj,(sP.1,a1.2.2.2.1.2.2.2.2.2.2.2.2)))))))),a1.2.2.2.2)))),((0:Int),((List.length r9.1:Int),((0:Int),())))))))) (cond (aA a2.1 19) ((SX N a0 a1.2.2.1 a1.2.2.2.1.2.2.2.2.2.1 a1.2.2.2.1.2.2.2.2.2.2.1 (a1.2.1,(a2.2.2.2.2.2.1,(a2.2.1,(a2.2.2.2.2.2.2.2.1,()))))).bind fun wi=>let v17:Int:=W .i64 (a1.2.1+1);some ((a1.1,(v17,(a1.2.2.1,((a1.2.2.2.1.1,(a1.2.2.2.1.2.1,(a1.2.2.2.1.2.2.1,(a1.2.2.2.1.2.2.2.1,(a1.2.2.2.1.2.2.2.2.1,(a1.2.2.2.1.2.2.2.2.2.1,(wi.1,a1.2.2.2.1.2.2.2.2.2.2.2))))))),a1.2.2.2.2)))),(wi.2,((W .i64 (v17-1)),((0:Int),()))))) (cond (aA a2.1 20) ((oT N a0 a1.2.2.1 a1.2.2.2.1.2.2.2.2.2.1 a1.2.2.2.1.2.2.2.2.2.2.1).bind fun DG=>cond (!aA DG.2.2 0) ((eh N DG.2.2).bind fun Cp=>some (a1,Cp)) ((ct N a0 a1.2.2.2.1.2.2.2.2.2.2.2.2.1 a1.2.2.2.1.2.2.2.2.2.2.2.1 DG.2.1 a1.2.2.2.1.2.2.2.2.2.2.1).bind fun xP=>afA (a1.1,(a1.2.1,(DG.1,((a1.2.2.2.1.1,((2:Int),((0:Int),(a1.2.2.2.1.2.2.2.1,(a1.2.2.2.1.2.2.2.2.1,(DG.2.1,(a1.2.2.2.1.2.2.2.2.2.2.1,(a1.2.2.2.1.2.2.2.2.2.2.2.1,(xP.1,a1.2.2.2.1.2.2.2.2.2.2.2.2.2))))))))),a1.2.2.2.2)))) ((0:Int),((0:Int),((aS,(cj,(ba,(ba,(cI,(cL,())))))),(((0:Int),((0:Int),((0:Int),((0:Int),(cj,(([]:List ((Int)×((List ((Int)×((Int)×(Unit))))×((Int)×((Int)×((Int)×((Int)×(Unit)))))))),(cj,(cI,(aS,(aS,())))))))))),(((0:Int),((0:Int),(xl,((0:Int),())))),()))))) aZ DG.2.1 (0:Int) (0:Int))) (cond (aA a2.1 21) ((gZ N a0 a1.2.2.1 a1.2.2.2.1.1 a1.2.2.2.1.2.2.2.2.2.2.2.2.1 a1.2.2.2.1.2.2.2.2.2.2.2.2.2.1).bind fun xg=>cond (!aA xg.2.2 0) ((eh N xg.2.2).bind fun MU=>some (a1,MU)) ((zY N a0 xg.1).bind fun QZ=>cond (!aA QZ.2 0) ((eh N QZ.2).bind fun AH=>some (a1,AH)) ((lA N QZ.1.1 a1.2.2.2.1.1 a2.1).bind fun Gk=>some ((a1.1,(a1.2.1,((Gk.1,QZ.1.2),(((0:Int),((0:Int),((0:Int),((0:Int),(cj,(([]:List ((Int)×((List ((Int)×((Int)×(Unit))))×((Int)×((Int)×((Int)×((Int)×(Unit)))))))),(cj,(cI,(aS,(aS,())))))))))),(xg.2.1,a1.2.2.2.2.2))))),(Gk.2,((0:Int),(xg.2.1.2.1,()))))))) ((eh N (0:Int)).bind fun KN=>some (a1,KN)))))))))
def nv(N:Nat)(a0:aa)(a1:aE)(a2:fK):Option (aE×cE):=nv.b N (nv.l41 N N) a0 a1 a2
abbrev qm.Qn:=aa→aE→fK→aE→cE→Option (aE×cE)
def qm.Ja(N:Nat)(x3:aa)(x4:aE)(x5:fK)(x6:aE)(x7:cE):Option (aE×cE):=
 (S7 N x4 x5.1).bind fun MU=>cond (!MU) ((eh N (6:Int)).bind fun QZ=>some (x4,QZ)) ((nv N x3 x4 x5).bind fun AH=>some (AH.1,AH.2))
def qm.PI(N:Nat)(x3:aa)(x4:aE)(x5:fK)(x6:aE)(x7:cE):Option (aE×cE):=qm.Ja N x3 x4 x5 x6 x7
def qm.b(N:Nat)(Gt:qm.Qn)(a0:aa)(a1:aE)(a2:fK):Option (aE×cE):=
 cond (aA a2.1 11) ((lA N a1.2.2.1.1 a2.2.1 a2.1).bind fun r1=>cond (aA r1.2 0) (cond (aA a2.1 11) ((Ms N a0 (r1.1,a1.2.2.1.2) a2.2.1).bind fun r2=>cond (aA a1.2.2.2.1.2.1 3) ((lP N a1.2.2.2.1.2.2.2.2.2.2.1 a2.2.1).bind fun r3=>(eh N r1.2).bind fun r4=>some ((a1.1,(a1.2.1,(r2.1,((a1.2.2.2.1.1,(a1.2.2.2.1.2.1,(a1.2.2.2.1.2.2.1,(a1.2.2.2.1.2.2.2.1,(a1.2.2.2.1.2.2.2.2.1,(a1.2.2.2.1.2.2.2.2.2.1,(r3,a1.2.2.2.1.2.2.2.2.2.2.2))))))),a1.2.2.2.2)))),r4)) ((eh N r1.2).bind fun r5=>some ((a1.1,(a1.2.1,(r2.1,a1.2.2.2))),r5))) ((eh N r1.2).bind fun r6=>some ((a1.1,(a1.2.1,((r1.1,a1.2.2.1.2),a1.2.2.2))),r6))) ((eh N r1.2).bind fun r7=>some ((a1.1,(a1.2.1,((r1.1,a1.2.2.1.2),a1.2.2.2))),r7))) (cond (aA a2.1 12) ((lA N a1.2.2.1.1 a2.2.1 a2.1).bind fun r8=>cond (aA r8.2 0) (cond (aA a2.1 11) ((Ms N a0 (r8.1,a1.2.2.1.2) a2.2.1).bind fun r9=>cond (aA a1.2.2.2.1.2.1 3) ((lP N a1.2.2.2.1.2.2.2.2.2.2.1 a2.2.1).bind fun jL=>(eh N r8.2).bind fun lW=>some ((a1.1,(a1.2.1,(r9.1,((a1.2.2.2.1.1,(a1.2.2.2.1.2.1,(a1.2.2.2.1.2.2.1,(a1.2.2.2.1.2.2.2.1,(a1.2.2.2.1.2.2.2.2.1,(a1.2.2.2.1.2.2.2.2.2.1,(jL,a1.2.2.2.1.2.2.2.2.2.2.2))))))),a1.2.2.2.2)))),lW)) ((eh N r8.2).bind fun mK=>some ((a1.1,(a1.2.1,(r9.1,a1.2.2.2))),mK))) ((eh N r8.2).bind fun lD=>some ((a1.1,(a1.2.1,((r8.1,a1.2.2.1.2),a1.2.2.2))),lD))) ((eh N r8.2).bind fun sP=>some ((a1.1,(a1.2.1,((r8.1,a1.2.2.1.2),a1.2.2.2))),sP))) (cond (aA a2.1 13) ((Dy N a1 a2.2.1).bind fun tc=>cond (aA tc 0) ((eh N (3:Int)).bind fun wi=>some (a1,wi)) (cond (!aA a1.2.2.2.1.2.1 0) ((eh N (6:Int)).bind fun tb=>some (a1,tb)) ((lA N a1.2.2.1.1 a2.2.1 a2.1).bind fun ug=>cond (!aA ug.2 0) ((eh N ug.2).bind fun DG=>some ((a1.1,(a1.2.1,((ug.1,a1.2.2.1.2),a1.2.2.2))),DG)) ((MH N (a1.1,(a1.2.1,((ug.1,a1.2.2.1.2),a1.2.2.2))) a0.2.2.2.1).bind fun Cp=>cond (!Cp.2) ((eh N (2:Int)).bind fun xP=>some ((a1.1,(a1.2.1,((ug.1,a1.2.2.1.2),a1.2.2.2))),xP)) (some ((a1.1,(a1.2.1,((ug.1,a1.2.2.1.2),((a2.2.1,((1:Int),(Cp.1,((0:Int),(cj,(([]:List ((Int)×((List ((Int)×((Int)×(Unit))))×((Int)×((Int)×((Int)×((Int)×(Unit)))))))),(cj,(cI,(aS,(aS,())))))))))),a1.2.2.2.2)))),aZ)))))) (cond (aA a2.1 19) ((Dy N a1 a2.2.1).bind fun D4=>cond (aA D4 0) ((eh N (3:Int)).bind fun xQ=>some (a1,xQ)) ((Dy N a1 a2.2.1).bind fun AI=>cond (!aA AI 1) ((eh N (7:Int)).bind fun D3=>some (a1,D3)) (Gt a0 a1 a2 ((0:Int),((0:Int),((aS,(cj,(ba,(ba,(cI,(cL,())))))),(((0:Int),((0:Int),((0:Int),((0:Int),(cj,(([]:List ((Int)×((List ((Int)×((Int)×(Unit))))×((Int)×((Int)×((Int)×((Int)×(Unit)))))))),(cj,(cI,(aS,(aS,())))))))))),(((0:Int),((0:Int),(xl,((0:Int),())))),()))))) aZ))) (Gt a0 a1 a2 ((0:Int),((0:Int),((aS,(cj,(ba,(ba,(cI,(cL,())))))),(((0:Int),((0:Int),((0:Int),((0:Int),(cj,(([]:List ((Int)×((List ((Int)×((Int)×(Unit))))×((Int)×((Int)×((Int)×((Int)×(Unit)))))))),(cj,(cI,(aS,(aS,())))))))))),(((0:Int),((0:Int),(xl,((0:Int),())))),()))))) aZ))))
def qm(N:Nat)(a0:aa)(a1:aE)(a2:fK):Option (aE×cE):=qm.b N (qm.PI N) a0 a1 a2
def Ta(N:Nat)(a0:aa)(a1:aE)(a2:fK):Option (aE×cE):=
 cond (aA a2.1 1) ((gX N a1.2.2.1.1 a2.2.1).bind fun r1=>(eh N r1.2).bind fun r2=>some ((a1.1,(a1.2.1,((r1.1,a1.2.2.1.2),a1.2.2.2))),r2)) (cond (aA a2.1 2) ((eH N a1.2.2.1.1 a1.2.2.1.2.1 (a2.2.2.1,(a2.2.1,(a2.2.2.2.2.1,((0:Int),()))))).bind fun r3=>(eh N r3.2).bind fun r4=>some ((a1.1,(a1.2.1,((a1.2.2.1.1,(r3.1,a1.2.2.1.2.2)),a1.2.2.2))),r4)) (cond (aA a2.1 3) ((PY N a1 a2.2.2.1).bind fun r5=>cond (!r5) ((eh N (3:Int)).bind fun r6=>some (a1,r6)) ((MI N a1 (1:Int) (0:Int) (5:Int) a2.2.2.1 a2.2.2.2.2.2.2.1).bind fun r7=>some (r7.1,r7.2))) (cond (aA a2.1 4) ((SQ N a0 a1.2.2.1 a2.2.2.1 a2.2.2.2.2.2.2.1).bind fun r8=>(eh N r8.2).bind fun r9=>some ((a1.1,(a1.2.1,(r8.1,a1.2.2.2))),r9)) (cond (aA a2.1 5) ((Dy N a1 a2.2.1).bind fun jL=>cond (aA jL 0) ((eh N (3:Int)).bind fun lW=>some (a1,lW)) ((Dy N a1 a2.2.1).bind fun mK=>cond (!aA mK 1) ((eh N (7:Int)).bind fun lD=>some (a1,lD)) ((MI N a1 (1:Int) (0:Int) (6:Int) a2.2.1 a2.2.2.2.2.2.2.1).bind fun sP=>some (sP.1,sP.2)))) (cond (aA a2.1 22) ((Dy N a1 a2.2.1).bind fun tc=>cond (aA tc 0) ((eh N (3:Int)).bind fun wi=>some (a1,wi)) ((ov N a1.2.2.1.2.2.1 (7:Int) a2.2.1).bind fun tb=>(fu N tb).bind fun ug=>(M9 N ug).bind fun DG=>(fu N a2.2.2.2.2.2.2.1).bind fun Cp=>(CY N Cp DG).bind fun xP=>cond (aL 0 xP) ((eh N (9:Int)).bind fun D4=>some (a1,D4)) ((MI N a1 (1:Int) (0:Int) (7:Int) a2.2.1 a2.2.2.2.2.2.2.1).bind fun xQ=>some (xQ.1,xQ.2)))) (cond (aA a2.1 6) ((nf N a1.2.2.1.2.1 a2.2.2.1 a2.2.2.2.2.2.2.1).bind fun AI=>(eh N AI.2).bind fun D3=>some ((a1.1,(a1.2.1,((a1.2.2.1.1,(AI.1,a1.2.2.1.2.2)),a1.2.2.2))),D3)) (cond (aA a2.1 7) ((jl N a0 a1.2.2.1 (a1.2.1,(a2.2.2.1,(a2.2.2.2.1,(a2.2.2.2.2.1,(a2.2.2.2.2.2.2.1,(a2.2.2.2.2.2.2.2.1,()))))))).bind fun xg=>let v27:Int:=W .i64 (a1.2.1+1);some ((a1.1,(v27,(xg.1,a1.2.2.2))),(xg.2.2.2,((W .i64 (v27-1)),((W .i64 (a2.2.2.2.2.2.2.1-xg.2.2.1)),()))))) (cond (aA a2.1 8) ((PY N a1 a2.2.2.1).bind fun Gk=>cond (!Gk) ((eh N (3:Int)).bind fun KN=>some (a1,KN)) ((ni N a1.2.2.1.2.2.2.2.2.1 a2.2.2.1 a2.2.2.2.2.2.1).bind fun r32=>(eh N r32.2).bind fun r33=>some ((a1.1,(a1.2.1,((a1.2.2.1.1,(a1.2.2.1.2.1,(a1.2.2.1.2.2.1,(a1.2.2.1.2.2.2.1,(a1.2.2.1.2.2.2.2.1,(r32.1,a1.2.2.1.2.2.2.2.2.2)))))),a1.2.2.2))),r33))) (cond (aA a2.1 9) ((SP N a0 a1.2.2.1 a2.2.2.2.1 a2.2.2.2.2.2.2.2.1).bind fun MQ=>cond (aA MQ.2.2 0) (cond (!aA a1.2.2.2.1.2.1 0) ((c8 N a1.2.2.2.1.2.2.2.2.2.2.2.2.2.1 MQ.2.1).bind fun r35=>(eh N r35.2).bind fun r36=>some ((a1.1,(a1.2.1,(MQ.1,((a1.2.2.2.1.1,(a1.2.2.2.1.2.1,(a1.2.2.2.1.2.2.1,(a1.2.2.2.1.2.2.2.1,(a1.2.2.2.1.2.2.2.2.1,(a1.2.2.2.1.2.2.2.2.2.1,(a1.2.2.2.1.2.2.2.2.2.2.1,(a1.2.2.2.1.2.2.2.2.2.2.2.1,(a1.2.2.2.1.2.2.2.2.2.2.2.2.1,(r35.1,a1.2.2.2.1.2.2.2.2.2.2.2.2.2.2)))))))))),a1.2.2.2.2)))),r36)) ((eh N MQ.2.2).bind fun r37=>some ((a1.1,(a1.2.1,(MQ.1,a1.2.2.2))),r37))) ((eh N MQ.2.2).bind fun r38=>some ((a1.1,(a1.2.1,(MQ.1,a1.2.2.2))),r38))) (cond (aA a2.1 10) ((MH N a1 a2.2.2.2.2.2.2.1).bind fun r39=>cond (!r39.2) ((eh N (2:Int)).bind fun r40=>some (a1,r40)) (some ((r39.1,a1.2),aZ))) ((qm N a0 a1 a2).bind fun r41=>some (r41.1,r41.2))))))))))))
def Tc(N:Nat)(a0:aa)(a1:aE)(a2:fK):Option (aE×cE):=
 (iK N a0).bind fun r1=>cond (!r1) (some (a1,((1:Int),bR))) ((nc N a2).bind fun r2=>cond (!r2) (some (a1,((1:Int),bR))) ((Ta N a0 a1 a2).bind fun r3=>cond (!aA r3.2.1 0) (some (a1,(r3.2.1,bR))) (some (r3.1,r3.2))))
abbrev z2.eX:=fW→aa→aE→aE→aj→Int→Option (aE×aj)
def z2.oX(N:Nat)(eS:z2.eX)(x1:fW)(x2:aa)(x4:aE)(x6:aE)(x8:aj)(x9:Int):Option (aE×aj):=
 cond (aL x9 (List.length x1:Int)) (cond (aM x9 (List.length x1)) ((Tc N x2 x6 (List.getD x1 x9.toNat zz8)).bind fun r3=>cond (small (List.length x8+List.length ([r3.2]))) (eS x1 x2 x4 r3.1 (x8++([r3.2])) (W .i64 (x9+1))) (none)) (none)) (some (x6,x8))
def z2.l6(N:Nat):Nat→z2.eX
 |0,_,_,_,_,_,_=>none
 |n+1,x1,x2,x4,x6,x8,x9=>z2.oX N (z2.l6 N n) x1 x2 x4 x6 x8 x9
def z2.b(N:Nat)(qq:z2.eX)(a0:aa)(a1:fW):Option (aE×aj):=
 (ZW N a0).bind fun r1=>cond (!aA r1.2 0) (some (((0:Int),((0:Int),((aS,(cj,(ba,(ba,(cI,(cL,())))))),(((0:Int),((0:Int),((0:Int),((0:Int),(cj,(([]:List ((Int)×((List ((Int)×((Int)×(Unit))))×((Int)×((Int)×((Int)×((Int)×(Unit)))))))),(cj,(cI,(aS,(aS,())))))))))),(((0:Int),((0:Int),(xl,((0:Int),())))),()))))),[])) (qq a1 a0 ((0:Int),((0:Int),((aS,(cj,(ba,(ba,(cI,(cL,())))))),(((0:Int),((0:Int),((0:Int),((0:Int),(cj,(([]:List ((Int)×((List ((Int)×((Int)×(Unit))))×((Int)×((Int)×((Int)×((Int)×(Unit)))))))),(cj,(cI,(aS,(aS,())))))))))),(((0:Int),((0:Int),(xl,((0:Int),())))),()))))) r1.1 ([]) (0:Int))
def z2(N:Nat)(a0:aa)(a1:fW):Option (aE×aj):=z2.b N (z2.l6 N N) a0 a1
def F28(N:Nat)(a0:aJ)(a1:aa)(a2:Int):Option (aE×aJ):=
 (yp N a0 a1 a2).bind fun r1=>(oB N r1.2 (2:Int)).bind fun r2=>let v3:Int:=W .i64 ((1:Int)+r2.1);cond (small (List.length r1.1+List.length ([((11:Int),(v3,eD)),((13:Int),(v3,eD))]))) (let v4:List ((Int)×((Int)×((Int)×((Int)×((Int)×((Int)×((Int)×((Int)×(Unit))))))))):=r1.1++([((11:Int),(v3,eD)),((13:Int),(v3,eD))]);(xN N r2.2 a1).bind fun r5=>cond (small (List.length v4+List.length r5.1)) (let v6:List ((Int)×((Int)×((Int)×((Int)×((Int)×((Int)×((Int)×((Int)×(Unit))))))))):=v4++r5.1;cond (small (List.length v6+List.length ([((10:Int),((0:Int),((0:Int),((0:Int),((0:Int),((0:Int),((2:Int),((0:Int),())))))))),((15:Int),Xc)]))) (let v7:List ((Int)×((Int)×((Int)×((Int)×((Int)×((Int)×((Int)×((Int)×(Unit))))))))):=v6++([((10:Int),((0:Int),((0:Int),((0:Int),((0:Int),((0:Int),((2:Int),((0:Int),())))))))),((15:Int),Xc)]);(xN N r5.2 a1).bind fun r8=>cond (small (List.length v7+List.length r8.1)) ((z2 N a1 (v7++r8.1)).bind fun jL=>some (jL.1,r8.2)) (none)) (none)) (none)) (none)
abbrev nN.iS:=aJ→aa→aE→aa→aE→az→ay→Int→Int→Option (aa×aE×az×ay×aJ)
abbrev nN.eX:=aJ→aa→aE→aa→aE→az→ay→Int→Option (aa×aE×az×ay×aJ)
def nN.s0(N:Nat)(eS:nN.eX)(nC:nN.iS)(x0:aJ)(x2:aa)(x3:aE)(x6:aa)(x7:aE)(x8:az)(aQ:ay)(aF:Int)(aN:Int):Option (aa×aE×az×ay×aJ):=
 cond (bX aN 4) (cond (aL (List.length aQ:Int) 40) ((I2 N x0 (3:Int)).bind fun r6=>cond (!r6.1) (let v7:Int:=W .i64 ((100:Int)+(List.length aQ:Int));cond (aM aF (List.length x8)) ((oB N r6.2 (9:Int)).bind fun r8=>let v9:Int:=W .i64 (r8.1-6);cond (small (List.length aQ+List.length ([(v7,((List.getD x8 aF.toNat ((0:Int),(aS,aC))).1,(aN,(v9,()))))]))) (nC r8.2 x2 x3 x6 x7 x8 (aQ++([(v7,((List.getD x8 aF.toNat ((0:Int),(aS,aC))).1,(aN,(v9,()))))])) aF (W .i64 (aN+1))) (none)) (none)) (nC r6.2 x2 x3 x6 x7 x8 aQ aF (W .i64 (aN+1)))) ((I2 N x0 (12:Int)).bind fun lD=>cond (lD.1) (cond (aM aF (List.length x8)) (eS lD.2 x2 x3 x6 x7 (List.set x8 aF.toNat ((List.getD x8 aF.toNat ((0:Int),(aS,aC))).1,(((List.getD x8 aF.toNat ((0:Int),(aS,aC))).2).1,((((List.getD x8 aF.toNat ((0:Int),(aS,aC))).2).2).1,((3:Int),((((List.getD x8 aF.toNat ((0:Int),(aS,aC))).2).2).2).2))))) aQ (W .i64 (aF+1))) (none)) (eS lD.2 x2 x3 x6 x7 x8 aQ (W .i64 (aF+1))))) ((I2 N x0 (12:Int)).bind fun tb=>cond (tb.1) (cond (aM aF (List.length x8)) (eS tb.2 x2 x3 x6 x7 (List.set x8 aF.toNat ((List.getD x8 aF.toNat ((0:Int),(aS,aC))).1,(((List.getD x8 aF.toNat ((0:Int),(aS,aC))).2).1,((((List.getD x8 aF.toNat ((0:Int),(aS,aC))).2).2).1,((3:Int),((((List.getD x8 aF.toNat ((0:Int),(aS,aC))).2).2).2).2))))) aQ (W .i64 (aF+1))) (none)) (eS tb.2 x2 x3 x6 x7 x8 aQ (W .i64 (aF+1))))
def nN.l9(N:Nat)(eS:nN.eX):Nat→nN.iS
 |0,_,_,_,_,_,_,_,_,_=>none
 |n+1,x0,x2,x3,x6,x7,x8,aQ,aF,aN=>nN.s0 N eS (nN.l9 N eS n) x0 x2 x3 x6 x7 x8 aQ aF aN
def nN.oX(N:Nat)(tW:nN.iS)(eS:nN.eX)(x0:aJ)(x2:aa)(x3:aE)(x6:aa)(x7:aE)(x8:az)(aQ:ay)(aF:Int):Option (aa×aE×az×ay×aJ):=
 cond (aL aF (List.length x8:Int)) (tW x0 x2 x3 x6 x7 x8 aQ aF (1:Int)) (cond (aL 0 (List.length aQ:Int)) ((I2 N x0 (20:Int)).bind fun xP=>cond (xP.1) (cond (aM 0 (List.length aQ)) (some (x6,x7,x8,(List.set aQ (0:Int).toNat ((List.getD aQ (0:Int).toNat aC).1,(((List.getD aQ (0:Int).toNat aC).2).1,((9:Int),(((List.getD aQ (0:Int).toNat aC).2).2).2)))),xP.2)) (none)) (some (x6,x7,x8,aQ,xP.2))) (some (x6,x7,x8,aQ,x0)))
def nN.l6(N:Nat):Nat→nN.eX
 |0,_,_,_,_,_,_,_,_=>none
 |n+1,x0,x2,x3,x6,x7,x8,aQ,aF=>nN.oX N (nN.l9 N (nN.l6 N n) N) (nN.l6 N n) x0 x2 x3 x6 x7 x8 aQ aF
def nN.b(N:Nat)(qq:nN.eX)(a0:aJ):Option (aa×aE×az×ay×aJ):=
 (qk N a0).bind fun r1=>(F28 N r1.2 r1.1 (20:Int)).bind fun r2=>(cQ N r1.1 r2.1.2.2.1 r2.1.2.1).bind fun r3=>qq r2.2 (cj,eD) ((0:Int),((0:Int),((aS,(cj,(ba,(ba,(cI,(cL,())))))),(((0:Int),((0:Int),((0:Int),((0:Int),(cj,(([]:List ((Int)×((List ((Int)×((Int)×(Unit))))×((Int)×((Int)×((Int)×((Int)×(Unit)))))))),(cj,(cI,(aS,(aS,())))))))))),(((0:Int),((0:Int),(xl,((0:Int),())))),()))))) r1.1 r2.1 r3.1 ([]) (0:Int)
def nN(N:Nat)(a0:aJ):Option (aa×aE×az×ay×aJ):=nN.b N (nN.l6 N N) a0
abbrev F5.afB:=aa→aE→az→ag→az→aq→Int→aq→Int→aq→Int→Int→Option (Bool)
abbrev F5.qC:=aa→aE→az→ag→az→aq→Int→aq→Int→aq→Int→Int→Option (Bool)
abbrev F5.lV:=aa→aE→az→ag→az→aq→Int→aq→Int→aq→Int→Option (Bool)
abbrev F5.Qr:=aa→aE→az→ag→az→aq→Int→aq→Int→Option (Bool)
abbrev F5.jK:=aa→aE→az→ag→az→aq→Int→aq→Int→Option (Bool)
abbrev F5.fp:=aa→aE→az→ag→az→aq→Int→Option (Bool)
def F5.Ti(N:Nat)(dq:F5.fp)(gJ:F5.jK)(lX:F5.lV)(oE:F5.qC)(x3:aa)(x4:aE)(x5:az)(x7:ag)(x8:az)(aQ:aq)(aF:Int)(aN:aq)(bb:Int)(bs:aq)(bz:Int)(cv:Int):Option (Bool):=
 cond (!aA aF 0) (cond (aM bz (List.length x8)) ((sK N x7.2.1 ((((((List.getD x8 bz.toNat ((0:Int),(aS,aC))).2).2).2).2).1)).bind fun xP=>cond (aA xP aF) (cond (aM bz (List.length x8)) (cond (aM cv (List.length (((List.getD x8 bz.toNat ((0:Int),(aS,aC))).2).1))) ((fu N (((List.getD (((List.getD x8 bz.toNat ((0:Int),(aS,aC))).2).1) cv.toNat bR).2).1)).bind fun D4=>(ub N bs D4).bind fun xQ=>oE x3 x4 x5 x7 x8 aQ aF aN bb xQ bz (W .i64 (cv+1))) (none)) (none)) (oE x3 x4 x5 x7 x8 aQ aF aN bb bs bz (W .i64 (cv+1)))) (none)) (oE x3 x4 x5 x7 x8 aQ aF aN bb bs bz (W .i64 (cv+1)))
def F5.j28(N:Nat)(dq:F5.fp)(gJ:F5.jK)(lX:F5.lV)(oE:F5.qC)(x3:aa)(x4:aE)(x5:az)(x7:ag)(x8:az)(aQ:aq)(aF:Int)(aN:aq)(bb:Int)(bs:aq)(bz:Int)(cv:Int):Option (Bool):=F5.Ti N dq gJ lX oE x3 x4 x5 x7 x8 aQ aF aN bb bs bz cv
def F5.Ft(N:Nat)(XS:F5.afB)(dq:F5.fp)(gJ:F5.jK)(lX:F5.lV)(oE:F5.qC)(x3:aa)(x4:aE)(x5:az)(x7:ag)(x8:az)(aQ:aq)(aF:Int)(aN:aq)(bb:Int)(bs:aq)(bz:Int)(cv:Int):Option (Bool):=
 cond (aM bz (List.length x8)) (cond (aL cv (List.length (((List.getD x8 bz.toNat ((0:Int),(aS,aC))).2).1):Int)) (cond (aM bz (List.length x8)) (cond (aM cv (List.length (((List.getD x8 bz.toNat ((0:Int),(aS,aC))).2).1))) (cond (!aA ((List.getD (((List.getD x8 bz.toNat ((0:Int),(aS,aC))).2).1) cv.toNat bR).1) bb) (oE x3 x4 x5 x7 x8 aQ aF aN bb bs bz (W .i64 (cv+1))) (cond (aA aF 0) (cond (aM bz (List.length x8)) (cond (aM cv (List.length (((List.getD x8 bz.toNat ((0:Int),(aS,aC))).2).1))) ((fu N (((List.getD (((List.getD x8 bz.toNat ((0:Int),(aS,aC))).2).1) cv.toNat bR).2).1)).bind fun ug=>(HQ N bs ug).bind fun DG=>XS x3 x4 x5 x7 x8 aQ aF aN bb DG bz cv) (none)) (none)) (XS x3 x4 x5 x7 x8 aQ aF aN bb bs bz cv))) (none)) (none)) (lX x3 x4 x5 x7 x8 aQ aF aN bb bs (W .i64 (bz+1)))) (none)
def F5.BS(N:Nat)(dq:F5.fp)(gJ:F5.jK)(lX:F5.lV):Nat→F5.qC
 |0,_,_,_,_,_,_,_,_,_,_,_,_=>none
 |n+1,x3,x4,x5,x7,x8,aQ,aF,aN,bb,bs,bz,cv=>F5.Ft N (F5.j28 N dq gJ lX (F5.BS N dq gJ lX n)) dq gJ lX (F5.BS N dq gJ lX n) x3 x4 x5 x7 x8 aQ aF aN bb bs bz cv
def F5.zs(N:Nat)(Qe:F5.qC)(dq:F5.fp)(gJ:F5.jK)(lX:F5.lV)(x3:aa)(x4:aE)(x5:az)(x7:ag)(x8:az)(aQ:aq)(aF:Int)(aN:aq)(bb:Int)(bs:aq)(bz:Int):Option (Bool):=
 cond (aL bz (List.length x8:Int)) (cond (aM bz (List.length x8)) (cond (!aA (((((List.getD x8 bz.toNat ((0:Int),(aS,aC))).2).2).2).1) (2:Int)) (lX x3 x4 x5 x7 x8 aQ aF aN bb bs (W .i64 (bz+1))) (cond (aM bz (List.length x5)) (cond (!aA (((((List.getD x5 bz.toNat ((0:Int),(aS,aC))).2).2).2).1) (1:Int)) (lX x3 x4 x5 x7 x8 aQ aF aN bb bs (W .i64 (bz+1))) (Qe x3 x4 x5 x7 x8 aQ aF aN bb bs bz (0:Int))) (none))) (none)) ((s8 N x7.2.2.2.1 aF bb).bind fun QZ=>(fu N QZ).bind fun AH=>(CY N bs AH).bind fun Gk=>cond (!aA Gk 0) (some false) (gJ x3 x4 x5 x7 x8 aQ aF aN (W .i64 (bb+1))))
def F5.AG(N:Nat)(dq:F5.fp)(gJ:F5.jK):Nat→F5.lV
 |0,_,_,_,_,_,_,_,_,_,_,_=>none
 |n+1,x3,x4,x5,x7,x8,aQ,aF,aN,bb,bs,bz=>F5.zs N (F5.BS N dq gJ (F5.AG N dq gJ n) N) dq gJ (F5.AG N dq gJ n) x3 x4 x5 x7 x8 aQ aF aN bb bs bz
def F5.Z0(N:Nat)(dq:F5.fp)(Gu:F5.Qr)(x3:aa)(x4:aE)(x5:az)(x7:ag)(x8:az)(aQ:aq)(aF:Int)(aN:aq)(cw:Int):Option (Bool):=
 cond (aL cw (List.length x8:Int)) (cond (aM cw (List.length x8)) (cond (aA (((((List.getD x8 cw.toNat ((0:Int),(aS,aC))).2).2).2).1) (2:Int)) (cond (aM cw (List.length x5)) (cond (aA (((((List.getD x5 cw.toNat ((0:Int),(aS,aC))).2).2).2).1) (1:Int)) (cond (!aA aF 0) (cond (aM cw (List.length x8)) ((sK N x7.2.1 ((((((List.getD x8 cw.toNat ((0:Int),(aS,aC))).2).2).2).2).1)).bind fun r33=>cond (aA r33 aF) (cond (aM cw (List.length x8)) ((fu N (((((((List.getD x8 cw.toNat ((0:Int),(aS,aC))).2).2).2).2).2).1)).bind fun MQ=>(HQ N aN MQ).bind fun r35=>cond (aM cw (List.length x8)) ((fu N (((((((List.getD x8 cw.toNat ((0:Int),(aS,aC))).2).2).2).2).2).1)).bind fun r36=>(ub N aQ r36).bind fun r37=>Gu x3 x4 x5 x7 x8 r37 aF r35 (W .i64 (cw+1))) (none)) (none)) (Gu x3 x4 x5 x7 x8 aQ aF aN (W .i64 (cw+1)))) (none)) (Gu x3 x4 x5 x7 x8 aQ aF aN (W .i64 (cw+1)))) (Gu x3 x4 x5 x7 x8 aQ aF aN (W .i64 (cw+1)))) (none)) (Gu x3 x4 x5 x7 x8 aQ aF aN (W .i64 (cw+1)))) (none)) ((ov N x7.2.2.1 (5:Int) aF).bind fun r43=>(fu N r43).bind fun r44=>(CY N aN r44).bind fun r45=>cond (!aA r45 0) (some false) (dq x3 x4 x5 x7 x8 aQ (W .i64 (aF+1))))
def F5.XJ(N:Nat)(dq:F5.fp):Nat→F5.Qr
 |0,_,_,_,_,_,_,_,_,_=>none
 |n+1,x3,x4,x5,x7,x8,aQ,aF,aN,cw=>F5.Z0 N dq (F5.XJ N dq n) x3 x4 x5 x7 x8 aQ aF aN cw
def F5.zR(N:Nat)(Gm:F5.lV)(afC:F5.Qr)(dq:F5.fp)(gJ:F5.jK)(x3:aa)(x4:aE)(x5:az)(x7:ag)(x8:az)(aQ:aq)(aF:Int)(aN:aq)(bb:Int):Option (Bool):=
 cond (aL bb (List.length x3.1:Int)) ((s8 N x4.2.2.1.2.2.2.1 aF bb).bind fun lW=>(fu N lW).bind fun mK=>Gm x3 x4 x5 x7 x8 aQ aF aN bb mK (0:Int)) (afC x3 x4 x5 x7 x8 aQ aF aN (0:Int))
def F5.Be(N:Nat)(dq:F5.fp):Nat→F5.jK
 |0,_,_,_,_,_,_,_,_,_=>none
 |n+1,x3,x4,x5,x7,x8,aQ,aF,aN,bb=>F5.zR N (F5.AG N dq (F5.Be N dq n) N) (F5.XJ N dq N) dq (F5.Be N dq n) x3 x4 x5 x7 x8 aQ aF aN bb
def F5.tR(N:Nat)(Gq:F5.jK)(dq:F5.fp)(x3:aa)(x4:aE)(x5:az)(x7:ag)(x8:az)(aQ:aq)(aF:Int):Option (Bool):=
 cond (bX aF 24) ((ov N x4.2.2.1.2.2.1 (5:Int) aF).bind fun r8=>(fu N r8).bind fun r9=>Gq x3 x4 x5 x7 x8 aQ aF r9 (0:Int)) ((ov N x7.2.2.1 (2:Int) (0:Int)).bind fun r47=>(fu N r47).bind fun r48=>(CY N aQ r48).bind fun r49=>cond (aA r49 0) ((iq N x3 x7).bind fun r50=>some r50) (some false))
def F5.ue(N:Nat):Nat→F5.fp
 |0,_,_,_,_,_,_,_=>none
 |n+1,x3,x4,x5,x7,x8,aQ,aF=>F5.tR N (F5.Be N (F5.ue N n) N) (F5.ue N n) x3 x4 x5 x7 x8 aQ aF
def F5.b(N:Nat)(Au:F5.fp)(a0:List (Int)):Option (Bool):=
 (F12 N).bind fun r1=>cond (!r1) (some false) ((F13 N a0).bind fun r2=>(nN N r2).bind fun r3=>(mh N r3.1 r3.2.1.2.2.1 r3.2.2.1 r3.2.2.2.1).bind fun r4=>cond (!aA r4.2.2 0) (some (aA (List.length r4.1.2.2.2.2.1:Int) 0)) (cond (!aA (List.length r4.2.1:Int) (List.length r3.2.2.1:Int)) (some false) ((ov N r3.2.1.2.2.1.2.2.1 (2:Int) (0:Int)).bind fun r5=>(fu N r5).bind fun r6=>Au r3.1 r3.2.1 r3.2.2.1 r4.1 r4.2.1 r6 (0:Int))))
def F5(N:Nat)(a0:List (Int)):Option (Bool):=F5.b N (F5.ue N N) a0
end
end VM.F
