/- A part of the proof of HedgeLess of layer 22: the functions as equations between values, printed by a program. -/
import Derived.Test.YtocmlaipoebfeaaGreatVm0
set_option linter.all false
namespace VM.F
open Go VM
set_option maxRecDepth 100000
noncomputable section
abbrev wo:Ty:=(.pair .str .unit)
abbrev lB:Ty:=(.pair .str (.pair (.int .u64) .unit))
abbrev jH:Ty:=(.pair (.int .i64) (.pair (.int .i64) .unit))
abbrev dj:Ty:=(.pair (.int .i64) (.pair (.int .u64) .unit))
abbrev c4:Ty:=(.pair .bool (.pair (.slice (.int .u64)) .unit))
abbrev fF:Ty:=(.pair (.slice (.int .u64)) (.pair (.int .i64) .unit))
abbrev iT:Ty:=(.pair (.int .i64) jH)
abbrev wq:Ty:=(.pair (.int .i64) (.pair (.int .i64) (.pair .bool (.pair (.int .u8) .unit))))
abbrev eu:Ty:=(.pair (.int .i64) iT)
abbrev wu:Ty:=(.pair (.int .i64) (.pair (.int .i64) (.pair dj .unit)))
abbrev ry:Ty:=(.pair (.int .i64) eu)
abbrev sO:Ty:=(.pair (.int .i64) (.pair (.int .i64) (.pair c4 .unit)))
abbrev lE:Ty:=(.pair (.int .i64) ry)
abbrev pI:Ty:=(.pair (.int .i64) (.pair (.int .i64) lE))
abbrev jI:Ty:=(.pair (.int .i64) (.pair (.slice jH) eu))
abbrev gi:Ty:=(.pair (.int .i64) (.pair (.int .i64) (.pair (.slice ry) (.pair (.int .i64) .unit))))
abbrev aB:Ty:=(.pair (.slice eu) lE)
abbrev aL:Ty:=(.pair (.slice jH) (.pair (.slice eu) (.pair (.slice iT) (.pair (.slice iT) (.pair (.slice (.int .i64)) (.pair (.slice lE) .unit))))))
abbrev pH:Ty:=(.pair (.int .i64) (.pair (.int .i64) (.pair (.int .i64) (.pair (.int .i64) (.pair (.slice eu) (.pair (.slice jI) (.pair (.slice eu) (.pair (.slice (.int .i64)) (.pair (.slice jH) (.pair (.slice jH) .unit))))))))))
abbrev eg:Ty:=(.pair (.int .i64) (.pair (.int .i64) (.pair aL (.pair pH (.pair gi .unit)))))
abbrev abm:=Ty.den wo
abbrev abn:=List (Ty.den wo)
abbrev P0:=Ty.den lB
abbrev P1:=List (Ty.den lB)
abbrev Cm:=Ty.den jH
abbrev aD:=List (Ty.den jH)
abbrev br:=Ty.den dj
abbrev eJ:=List (Ty.den dj)
abbrev aJ:=Ty.den c4
abbrev pW:=List (Ty.den c4)
abbrev bf:=Ty.den fF
abbrev awe:=List (Ty.den fF)
abbrev cK:=Ty.den iT
abbrev au:=List (Ty.den iT)
abbrev abo:=Ty.den wq
abbrev abp:=List (Ty.den wq)
abbrev bT:=Ty.den eu
abbrev aO:=List (Ty.den eu)
abbrev tG:=Ty.den wu
abbrev dE:=List (Ty.den wu)
abbrev iP:=Ty.den ry
abbrev bs:=List (Ty.den ry)
abbrev akt:=Ty.den sO
abbrev bJ:=List (Ty.den sO)
abbrev c7:=Ty.den lE
abbrev bm:=List (Ty.den lE)
abbrev g9:=Ty.den pI
abbrev jF:=List (Ty.den pI)
abbrev jc:=Ty.den jI
abbrev bE:=List (Ty.den jI)
abbrev dV:=Ty.den gi
abbrev aqB:=List (Ty.den gi)
abbrev ae:=Ty.den aB
abbrev aqC:=List (Ty.den aB)
abbrev an:=Ty.den aL
abbrev awf:=List (Ty.den aL)
abbrev aos:=Ty.den pH
abbrev aot:=List (Ty.den pH)
abbrev aV:=Ty.den eg
abbrev auw:=List (Ty.den eg)
def F99(N:Nat):Option (ae×an):=
 some (([((0:Int),((100:Int),((1:Int),((0:Int),())))),((0:Int),((7:Int),cv))],((0:Int),((0:Int),((0:Int),((0:Int),((1:Int),((10:Int),()))))))),([((1:Int),((1:Int),()))],([((1:Int),((1:Int),((1:Int),((50:Int),()))))],([((1:Int),((0:Int),((-90:Int),()))),((5:Int),((1:Int),((90:Int),())))],([((0:Int),((0:Int),((5:Int),()))),((0:Int),((1:Int),((20:Int),()))),((1:Int),((0:Int),((-5:Int),()))),((1:Int),((1:Int),((-20:Int),())))],([(100:Int),(7:Int)],(dk,())))))))
def Ej(N:Nat)(a0:Int)(a1:Int)(a2:Int):Option (Bool):=
 cond (cZ a1 a0) (some (cZ a0 a2)) (some false)
abbrev BT.bX:=ae→aO→Int→Int→Option (Bool)
def BT.eN(N:Nat)(cG:BT.bX)(x1:ae)(aX:aO)(bc:Int)(bU:Int):Option (Bool):=
 cond (aT bU bc) (cond (aY bU (List.length aX)) ((Ej N ((List.getD aX bU.toNat aW).1) (0:Int) (3:Int)).bind λr3=>cond (!r3) (some false) ((Ej N (((List.getD aX bU.toNat aW).2).1) (1:Int) (1000000000000:Int)).bind λr4=>cond (!r4) (some false) ((Ej N ((((List.getD aX bU.toNat aW).2).2).1) (0:Int) (1000000000:Int)).bind λr5=>cond (!r5) (some false) ((Ej N (((((List.getD aX bU.toNat aW).2).2).2).1) (0:Int) (1000000000:Int)).bind λr6=>cond (!r6) (some false) (cG x1 aX bc (W .i64 (bU+1))))))) (none)) (cond (cZ 0 x1.2.1) ((Ej N x1.2.2.1 (0:Int) (4:Int)).bind λr8=>cond (r8) ((Ej N x1.2.2.2.1 (0:Int) (1000000:Int)).bind λr9=>cond (r9) ((Ej N x1.2.2.2.2.1 (0:Int) (1000000:Int)).bind λkF=>cond (kF) ((Ej N x1.2.2.2.2.2.1 (1:Int) (4611686018427387904:Int)).bind λod=>cond (od) (some (cZ 0 x1.2.2.2.2.2.2.1)) (some false)) (some false)) (some false)) (some false)) (some false))
def BT.l4(N:Nat):Nat→BT.bX
 |0,_,_,_,_=>none
 |n+1,x1,aX,bc,bU=>BT.eN N (BT.l4 N n) x1 aX bc bU
def BT.b(N:Nat)(fN:BT.bX)(a0:ae):Option (Bool):=
 (Ej N (List.length a0.1:Int) (1:Int) (6:Int)).bind λr1=>cond (!r1) (some false) (fN a0 a0.1 (List.length a0.1:Int) (0:Int))
def BT(N:Nat)(a0:ae):Option (Bool):=BT.b N (BT.l4 N N) a0
abbrev pG.cO:=aD→aD→Int→Int→Option (Bool)
def pG.fy(N:Nat)(dO:pG.cO)(x0:aD)(x5:aD)(x6:Int)(x7:Int):Option (Bool):=
 cond (aT x7 x6) (cond (aY x7 (List.length x5)) (cond (aT ((List.getD x5 x7.toNat cv).1) (1:Int)) (some false) (cond (aT 12 ((List.getD x5 x7.toNat cv).1)) (some false) (cond (aT (((List.getD x5 x7.toNat cv).2).1) (1:Int)) (some false) (cond (aT 4 (((List.getD x5 x7.toNat cv).2).1)) (some false) (cond (aT 0 x7) (let v2:Int:=W .i64 (x7-1);cond (aY v2 (List.length x0)) (cond (cZ ((List.getD x5 x7.toNat cv).1) ((List.getD x0 v2.toNat cv).1)) (some false) (dO x0 x5 x6 (W .i64 (x7+1)))) (none)) (dO x0 x5 x6 (W .i64 (x7+1)))))))) (none)) (some true)
def pG.l2(N:Nat):Nat→pG.cO
 |0,_,_,_,_=>none
 |n+1,x0,x5,x6,x7=>pG.fy N (pG.l2 N n) x0 x5 x6 x7
def pG.b(N:Nat)(gG:pG.cO)(a0:aD):Option (Bool):=
 gG a0 a0 (List.length a0:Int) (0:Int)
def pG(N:Nat)(a0:aD):Option (Bool):=pG.b N (pG.l2 N N) a0
abbrev m5.eh:=aO→(List (Bool))→aO→Int→Int→Option (Bool)
def m5.ob(N:Nat)(dA:m5.eh)(x0:aO)(x3:List (Bool))(x6:aO)(x7:Int)(x8:Int):Option (Bool):=
 cond (aT x8 x7) (cond (aY x8 (List.length x6)) (cond (aT ((List.getD x6 x8.toNat aW).1) (1:Int)) (some false) (cond (aT 24 ((List.getD x6 x8.toNat aW).1)) (some false) (cond (aT (((List.getD x6 x8.toNat aW).2).1) (1:Int)) (some false) (cond (aT 12 (((List.getD x6 x8.toNat aW).2).1)) (some false) (cond (!aN ((((List.getD x6 x8.toNat aW).2).2).1) (1:Int)) (cond (!aN ((((List.getD x6 x8.toNat aW).2).2).1) (2:Int)) (some false) (cond (aT (((((List.getD x6 x8.toNat aW).2).2).2).1) (0:Int)) (some false) (cond (aT 1000000000000 (((((List.getD x6 x8.toNat aW).2).2).2).1)) (some false) (cond (aT 0 x8) (let v2:Int:=W .i64 (x8-1);cond (aY v2 (List.length x0)) (cond (cZ ((List.getD x6 x8.toNat aW).1) ((List.getD x0 v2.toNat aW).1)) (some false) (cond (aN ((((List.getD x6 x8.toNat aW).2).2).1) (1:Int)) (cond (aY (((List.getD x6 x8.toNat aW).2).1) 13) (cond (List.getD x3 (((List.getD x6 x8.toNat aW).2).1).toNat false) (some false) (cond (aY (((List.getD x6 x8.toNat aW).2).1) 13) (dA x0 (List.set x3 (((List.getD x6 x8.toNat aW).2).1).toNat true) x6 x7 (W .i64 (x8+1))) (none))) (none)) (dA x0 x3 x6 x7 (W .i64 (x8+1))))) (none)) (cond (aN ((((List.getD x6 x8.toNat aW).2).2).1) (1:Int)) (cond (aY (((List.getD x6 x8.toNat aW).2).1) 13) (cond (List.getD x3 (((List.getD x6 x8.toNat aW).2).1).toNat false) (some false) (cond (aY (((List.getD x6 x8.toNat aW).2).1) 13) (dA x0 (List.set x3 (((List.getD x6 x8.toNat aW).2).1).toNat true) x6 x7 (W .i64 (x8+1))) (none))) (none)) (dA x0 x3 x6 x7 (W .i64 (x8+1)))))))) (cond (aT (((((List.getD x6 x8.toNat aW).2).2).2).1) (0:Int)) (some false) (cond (aT 1000000000000 (((((List.getD x6 x8.toNat aW).2).2).2).1)) (some false) (cond (aT 0 x8) (let v7:Int:=W .i64 (x8-1);cond (aY v7 (List.length x0)) (cond (cZ ((List.getD x6 x8.toNat aW).1) ((List.getD x0 v7.toNat aW).1)) (some false) (cond (aN ((((List.getD x6 x8.toNat aW).2).2).1) (1:Int)) (cond (aY (((List.getD x6 x8.toNat aW).2).1) 13) (cond (List.getD x3 (((List.getD x6 x8.toNat aW).2).1).toNat false) (some false) (cond (aY (((List.getD x6 x8.toNat aW).2).1) 13) (dA x0 (List.set x3 (((List.getD x6 x8.toNat aW).2).1).toNat true) x6 x7 (W .i64 (x8+1))) (none))) (none)) (dA x0 x3 x6 x7 (W .i64 (x8+1))))) (none)) (cond (aN ((((List.getD x6 x8.toNat aW).2).2).1) (1:Int)) (cond (aY (((List.getD x6 x8.toNat aW).2).1) 13) (cond (List.getD x3 (((List.getD x6 x8.toNat aW).2).1).toNat false) (some false) (cond (aY (((List.getD x6 x8.toNat aW).2).1) 13) (dA x0 (List.set x3 (((List.getD x6 x8.toNat aW).2).1).toNat true) x6 x7 (W .i64 (x8+1))) (none))) (none)) (dA x0 x3 x6 x7 (W .i64 (x8+1)))))))))))) (none)) (some true)
def m5.l3(N:Nat):Nat→m5.eh
 |0,_,_,_,_,_=>none
 |n+1,x0,x3,x6,x7,x8=>m5.ob N (m5.l3 N n) x0 x3 x6 x7 x8
def m5.b(N:Nat)(o4:m5.eh)(a0:aO):Option (Bool):=
 o4 a0 (List.replicate 13 false) a0 (List.length a0:Int) (0:Int)
def m5(N:Nat)(a0:aO):Option (Bool):=m5.b N (m5.l3 N N) a0
abbrev Bb.bX:=Int→aD→Int→Int→Option (Int)
def Bb.eN(N:Nat)(cG:Bb.bX)(x1:Int)(bb:aD)(aX:Int)(bc:Int):Option (Int):=
 cond (aT bc aX) (cond (aY bc (List.length bb)) (cond (aN ((List.getD bb bc.toNat cv).1) x1) (some (((List.getD bb bc.toNat cv).2).1)) (cG x1 bb aX (W .i64 (bc+1)))) (none)) (some (0:Int))
def Bb.l4(N:Nat):Nat→Bb.bX
 |0,_,_,_,_=>none
 |n+1,x1,bb,aX,bc=>Bb.eN N (Bb.l4 N n) x1 bb aX bc
def Bb.b(N:Nat)(fN:Bb.bX)(a0:aD)(a1:Int):Option (Int):=
 (pG N a0).bind λr1=>cond (!r1) (some (0:Int)) (fN a1 a0 (List.length a0:Int) (0:Int))
def Bb(N:Nat)(a0:aD)(a1:Int):Option (Int):=Bb.b N (Bb.l4 N N) a0 a1
abbrev Em.bX:=aD→aO→Int→Int→Option (Bool)
def Em.eN(N:Nat)(cG:Em.bX)(x0:aD)(dd:aO)(eI:Int)(ei:Int):Option (Bool):=
 cond (aT ei eI) (cond (aY ei (List.length dd)) ((Bb N x0 (((List.getD dd ei.toNat aW).2).1)).bind λr4=>cond (aN r4 0) (some false) (cG x0 dd eI (W .i64 (ei+1)))) (none)) (some true)
def Em.l4(N:Nat):Nat→Em.bX
 |0,_,_,_,_=>none
 |n+1,x0,dd,eI,ei=>Em.eN N (Em.l4 N n) x0 dd eI ei
def Em.b(N:Nat)(fN:Em.bX)(a0:aD)(a1:aO):Option (Bool):=
 (pG N a0).bind λr1=>cond (!r1) (some false) ((m5 N a1).bind λr2=>cond (!r2) (some false) (fN a0 a1 (List.length a1:Int) (0:Int)))
def Em(N:Nat)(a0:aD)(a1:aO):Option (Bool):=Em.b N (Em.l4 N N) a0 a1
def RX(N:Nat)(a0:Int)(a1:Int):Option (Bool):=
 cond (aN a0 1) (some (aN a1 0)) (cond (aN a0 2) (some (aN a1 0)) (cond (aN a0 3) (some (aN a1 0)) (cond (aN a0 4) (some (aN a1 0)) (cond (aN a0 5) (cond (cZ 1 a1) (some (cZ a1 24)) (some false)) (cond (aN a0 6) (cond (cZ 1 a1) (some (cZ a1 12)) (some false)) (cond (aN a0 7) (cond (cZ 1 a1) (some (cZ a1 12)) (some false)) (some false)))))))
def RZ(N:Nat)(a0:Int)(a1:Int)(a2:cK):Option (Int):=
 cond (!aN a0 a2.1) (some (W .i64 (a0-a2.1))) (some (W .i64 (a1-a2.2.1)))
abbrev BU.cO:=au→au→Int→Int→Option (Bool)
def BU.fy(N:Nat)(dO:BU.cO)(x0:au)(x5:au)(x6:Int)(x7:Int):Option (Bool):=
 cond (aT x7 x6) (cond (aY x7 (List.length x5)) ((RX N ((List.getD x5 x7.toNat a6).1) (((List.getD x5 x7.toNat a6).2).1)).bind λr2=>cond (!r2) (some false) (cond (aN ((((List.getD x5 x7.toNat a6).2).2).1) (0:Int)) (some false) (cond (aT 0 x7) (let v3:Int:=W .i64 (x7-1);cond (aY v3 (List.length x0)) ((RZ N ((List.getD x5 x7.toNat a6).1) (((List.getD x5 x7.toNat a6).2).1) (List.getD x0 v3.toNat a6)).bind λr4=>cond (cZ r4 0) (some false) (dO x0 x5 x6 (W .i64 (x7+1)))) (none)) (dO x0 x5 x6 (W .i64 (x7+1)))))) (none)) (some true)
def BU.l2(N:Nat):Nat→BU.cO
 |0,_,_,_,_=>none
 |n+1,x0,x5,x6,x7=>BU.fy N (BU.l2 N n) x0 x5 x6 x7
def BU.b(N:Nat)(gG:BU.cO)(a0:au):Option (Bool):=
 gG a0 a0 (List.length a0:Int) (0:Int)
def BU(N:Nat)(a0:au):Option (Bool):=BU.b N (BU.l2 N N) a0
def ID(N:Nat)(a0:Int):Option br:=
 cond (aT 63 0) (none) (some ((shr .i64 a0 63),((W .u64 a0),())))
abbrev mZ.eh:=br→Int→Int→Int→eJ→Int→Int→Option (br×(Bool))
def mZ.ob(N:Nat)(dA:mZ.eh)(x2:br)(x4:Int)(x5:Int)(x6:Int)(bb:eJ)(aX:Int)(bc:Int):Option (br×(Bool)):=
 cond (aT bc aX) (cond (aY bc (List.length bb)) ((tf N x6 (((List.getD bb bc.toNat cv).2).1) (0:Int)).bind λr2=>(tf N x5 (W .u64 ((List.getD bb bc.toNat cv).1)) r2.2).bind λr4=>cond (aT 63 0) (none) (dA x2 (W .i64 ((W .i64 (x4+(shr .i64 ((List.getD bb bc.toNat cv).1) (63:Int))))+(W .i64 r4.2))) r4.1 r2.1 bb aX (W .i64 (bc+1)))) (none)) (cond (aT 63 0) (none) (cond (!aN x4 (shr .i64 (W .i64 x5) 63)) (some (cv,false)) (some (((W .i64 x5),(x6,())),true))))
def mZ.l3(N:Nat):Nat→mZ.eh
 |0,_,_,_,_,_,_,_=>none
 |n+1,x2,x4,x5,x6,bb,aX,bc=>mZ.ob N (mZ.l3 N n) x2 x4 x5 x6 bb aX bc
def mZ.b(N:Nat)(o4:mZ.eh)(a0:eJ):Option (br×(Bool)):=
 o4 cv (0:Int) (0:Int) (0:Int) a0 (List.length a0:Int) (0:Int)
def mZ(N:Nat)(a0:eJ):Option (br×(Bool)):=mZ.b N (mZ.l3 N N) a0
abbrev Dz.bO:=br→eJ→au→Int→Int→Option br
def Dz.eA(N:Nat)(bQ:Dz.bO)(x2:br)(x3:eJ)(bc:au)(bU:Int)(ca:Int):Option br:=
 cond (aT ca bU) (cond (aY ca (List.length bc)) ((ID N ((((List.getD bc ca.toNat a6).2).2).1)).bind λr3=>cond (small (List.length x3+List.length ([r3]))) (bQ x2 (x3++([r3])) bc bU (W .i64 (ca+1))) (none)) (none)) ((mZ N x3).bind λr6=>some r6.1)
def Dz.l5(N:Nat):Nat→Dz.bO
 |0,_,_,_,_,_=>none
 |n+1,x2,x3,bc,bU,ca=>Dz.eA N (Dz.l5 N n) x2 x3 bc bU ca
def Dz.b(N:Nat)(ff:Dz.bO)(a0:au):Option br:=
 (BU N a0).bind λr1=>cond (!r1) (some cv) (ff cv ([]) a0 (List.length a0:Int) (0:Int))
def Dz(N:Nat)(a0:au):Option br:=Dz.b N (Dz.l5 N N) a0
def IG(N:Nat)(a0:br)(a1:br):Option (Int):=
 cond (aT a0.1 a1.1) (some (-1:Int)) (cond (aN a0.1 a1.1) (cond (aT a0.2.1 a1.2.1) (some (-1:Int)) (cond (p8 (.pair (.int .i64) (.pair (.int .u64) .unit)) a0 a1) (some (0:Int)) (some (1:Int)))) (cond (p8 (.pair (.int .i64) (.pair (.int .u64) .unit)) a0 a1) (some (0:Int)) (some (1:Int))))
def Xo(N:Nat)(a0:br):Option (Int):=
 (IG N a0 cv).bind λr1=>some r1
def YE(N:Nat)(a0:Int)(a1:Int):Option (Bool):=
 cond (cZ 0 a0) (cond (cZ a0 24) (cond (cZ 0 a1) (some (aT a1 6)) (some false)) (some false)) (some false)
def R2(N:Nat)(a0:Int):Option (Bool):=
 some (!aN a0 (-9223372036854775808))
def VG(N:Nat)(a0:Int)(a1:Int)(a2:cK):Option (Int):=
 cond (!aN a0 a2.1) (some (W .i64 (a0-a2.1))) (some (W .i64 (a1-a2.2.1)))
abbrev og.cO:=au→au→Int→Int→Option (Bool)
def og.fy(N:Nat)(dO:og.cO)(x0:au)(x5:au)(x6:Int)(x7:Int):Option (Bool):=
 cond (aT x7 x6) (cond (aY x7 (List.length x5)) ((YE N ((List.getD x5 x7.toNat a6).1) (((List.getD x5 x7.toNat a6).2).1)).bind λr2=>cond (!r2) (some false) (cond (aN ((((List.getD x5 x7.toNat a6).2).2).1) (0:Int)) (some false) ((R2 N ((((List.getD x5 x7.toNat a6).2).2).1)).bind λr3=>cond (!r3) (some false) (cond (aT 0 x7) (let v4:Int:=W .i64 (x7-1);cond (aY v4 (List.length x0)) ((VG N ((List.getD x5 x7.toNat a6).1) (((List.getD x5 x7.toNat a6).2).1) (List.getD x0 v4.toNat a6)).bind λr5=>cond (cZ r5 0) (some false) (dO x0 x5 x6 (W .i64 (x7+1)))) (none)) (dO x0 x5 x6 (W .i64 (x7+1))))))) (none)) (some true)
def og.l2(N:Nat):Nat→og.cO
 |0,_,_,_,_=>none
 |n+1,x0,x5,x6,x7=>og.fy N (og.l2 N n) x0 x5 x6 x7
def og.b(N:Nat)(gG:og.cO)(a0:au):Option (Bool):=
 gG a0 a0 (List.length a0:Int) (0:Int)
def og(N:Nat)(a0:au):Option (Bool):=og.b N (og.l2 N N) a0
abbrev pK.bO:=Int→br→eJ→au→Int→Int→Option br
def pK.eA(N:Nat)(bQ:pK.bO)(x1:Int)(x4:br)(x5:eJ)(ca:au)(dd:Int)(eI:Int):Option br:=
 cond (aT eI dd) (cond (aY eI (List.length ca)) (cond (aN (((List.getD ca eI.toNat a6).2).1) x1) ((ID N ((((List.getD ca eI.toNat a6).2).2).1)).bind λr3=>cond (small (List.length x5+List.length ([r3]))) (bQ x1 x4 (x5++([r3])) ca dd (W .i64 (eI+1))) (none)) (bQ x1 x4 x5 ca dd (W .i64 (eI+1)))) (none)) ((mZ N x5).bind λr7=>some r7.1)
def pK.l5(N:Nat):Nat→pK.bO
 |0,_,_,_,_,_,_=>none
 |n+1,x1,x4,x5,ca,dd,eI=>pK.eA N (pK.l5 N n) x1 x4 x5 ca dd eI
def pK.b(N:Nat)(ff:pK.bO)(a0:au)(a1:Int):Option br:=
 (og N a0).bind λr1=>cond (!r1) (some cv) (ff a1 cv ([]) a0 (List.length a0:Int) (0:Int))
def pK(N:Nat)(a0:au)(a1:Int):Option br:=pK.b N (pK.l5 N N) a0 a1
abbrev Eo.cO:=au→Int→Option (Bool)
def Eo.fy(N:Nat)(dO:Eo.cO)(x0:au)(x4:Int):Option (Bool):=
 cond (aT x4 6) ((pK N x0 x4).bind λr2=>(Xo N r2).bind λr3=>cond (!aN r3 0) (some false) (dO x0 (W .i64 (x4+1)))) ((og N x0).bind λr5=>some r5)
def Eo.l2(N:Nat):Nat→Eo.cO
 |0,_,_=>none
 |n+1,x0,x4=>Eo.fy N (Eo.l2 N n) x0 x4
def Eo.b(N:Nat)(gG:Eo.cO)(a0:au):Option (Bool):=
 gG a0 (0:Int)
def Eo(N:Nat)(a0:au):Option (Bool):=Eo.b N (Eo.l2 N N) a0
def VH(N:Nat)(a0:c7):Option (Bool):=
 cond (cZ 1 a0.1) (cond (cZ a0.1 1099511627776) (cond (cZ 1 a0.2.1) (cond (cZ a0.2.1 24) (cond (cZ 0 a0.2.2.1) (cond (aT a0.2.2.1 6) (cond (aN a0.2.2.2.1 1) (cond (cZ 1 a0.2.2.2.2.1) (cond (cZ a0.2.2.2.2.1 1000000000) (cond (cZ 1 a0.2.2.2.2.2.1) (some (cZ a0.2.2.2.2.2.1 1000000000000)) (some false)) (some false)) (some false)) (cond (aN a0.2.2.2.1 2) (cond (cZ 1 a0.2.2.2.2.1) (cond (cZ a0.2.2.2.2.1 1000000000) (cond (cZ 1 a0.2.2.2.2.2.1) (some (cZ a0.2.2.2.2.2.1 1000000000000)) (some false)) (some false)) (some false)) (some false))) (some false)) (some false)) (some false)) (some false)) (some false)) (some false)
abbrev Dx.cO:=bm→bm→Int→Int→Option (Bool)
def Dx.fy(N:Nat)(dO:Dx.cO)(x0:bm)(x5:bm)(x6:Int)(x7:Int):Option (Bool):=
 cond (aT x7 x6) (cond (aY x7 (List.length x5)) ((VH N (List.getD x5 x7.toNat eT)).bind λr2=>cond (!r2) (some false) (cond (aT 0 x7) (let v3:Int:=W .i64 (x7-1);cond (aY v3 (List.length x0)) (cond (cZ ((List.getD x5 x7.toNat eT).1) ((List.getD x0 v3.toNat eT).1)) (some false) (dO x0 x5 x6 (W .i64 (x7+1)))) (none)) (dO x0 x5 x6 (W .i64 (x7+1))))) (none)) (some (cZ (List.length x0:Int) 32))
def Dx.l2(N:Nat):Nat→Dx.cO
 |0,_,_,_,_=>none
 |n+1,x0,x5,x6,x7=>Dx.fy N (Dx.l2 N n) x0 x5 x6 x7
def Dx.b(N:Nat)(gG:Dx.cO)(a0:bm):Option (Bool):=
 gG a0 a0 (List.length a0:Int) (0:Int)
def Dx(N:Nat)(a0:bm):Option (Bool):=Dx.b N (Dx.l2 N N) a0
abbrev oG.bX:=Int→bT→aO→Int→Int→Option (bT×(Bool))
def oG.eN(N:Nat)(cG:oG.bX)(x1:Int)(x4:bT)(bc:aO)(bU:Int)(ca:Int):Option (bT×(Bool)):=
 cond (aT ca bU) (cond (aY ca (List.length bc)) (cond (aN ((List.getD bc ca.toNat aW).1) x1) (some (List.getD bc ca.toNat aW,true)) (cG x1 x4 bc bU (W .i64 (ca+1)))) (none)) (some (aW,false))
def oG.l4(N:Nat):Nat→oG.bX
 |0,_,_,_,_,_=>none
 |n+1,x1,x4,bc,bU,ca=>oG.eN N (oG.l4 N n) x1 x4 bc bU ca
def oG.b(N:Nat)(fN:oG.bX)(a0:aO)(a1:Int):Option (bT×(Bool)):=
 (m5 N a0).bind λr1=>cond (!r1) (some (aW,false)) (fN a1 aW a0 (List.length a0:Int) (0:Int))
def oG(N:Nat)(a0:aO)(a1:Int):Option (bT×(Bool)):=oG.b N (oG.l4 N N) a0 a1
def F82(N:Nat)(a0:an)(a1:Int):Option (Bool):=
 (oG N a0.2.1 a1).bind λr1=>some r1.2
def F85(N:Nat)(a0:Int):Option (Bool):=
 cond (cZ 1 a0) (some (cZ a0 1000000000000)) (some false)
def F84(N:Nat)(a0:Int):Option (Bool):=
 (F85 N a0).bind λr1=>some (!r1)
abbrev sX.cO:=(List (Int))→Unit→Int→Int→Option (Int)
def sX.fy(N:Nat)(dO:sX.cO)(x0:List (Int))(x1:Unit)(x7:Int)(x8:Int):Option (Int):=
 cond (aT x8 x7) (cond (aY x8 (List.length x0)) ((F84 N (List.getD x0 x8.toNat (0:Int))).bind λr2=>cond (r2) (some x8) (dO x0 () x7 (W .i64 (x8+1)))) (none)) (some (-1:Int))
def sX.l2(N:Nat):Nat→sX.cO
 |0,_,_,_,_=>none
 |n+1,x0,x1,x7,x8=>sX.fy N (sX.l2 N n) x0 x1 x7 x8
def sX.b(N:Nat)(gG:sX.cO)(a0:List (Int))(a1:Unit):Option (Int):=
 gG a0 () (List.length a0:Int) (0:Int)
def sX(N:Nat)(a0:List (Int))(a1:Unit):Option (Int):=sX.b N (sX.l2 N N) a0 a1
def F83(N:Nat)(a0:List (Int))(a1:Unit):Option (Bool):=
 (sX N a0 ()).bind λr1=>some (cZ 0 r1)
abbrev ly.sP:=ae→an→bm→Int→Int→Option (Bool)
abbrev ly.mS:=ae→an→au→Int→Int→Option (Bool)
abbrev ly.bX:=ae→an→au→Int→Int→Option (Bool)
def ly.wQ(N:Nat)(HH:ly.sP)(x2:ae)(x3:an)(s6:bm)(adV:Int)(S1:Int):Option (Bool):=
 cond (aT S1 adV) (cond (aY S1 (List.length s6)) ((F82 N x3 (((List.getD s6 S1.toNat eT).2).1)).bind λRs=>cond (!Rs) (some false) (cond (cZ (List.length x2.1:Int) ((((List.getD s6 S1.toNat eT).2).2).1)) (some false) (HH x2 x3 s6 adV (W .i64 (S1+1))))) (none)) ((F83 N x3.2.2.2.2.1 ()).bind λEv=>some (!Ev))
def ly.xL(N:Nat):Nat→ly.sP
 |0,_,_,_,_,_=>none
 |n+1,x2,x3,s6,adV,S1=>ly.wQ N (ly.xL N n) x2 x3 s6 adV S1
def ly.wP(N:Nat)(HI:ly.sP)(ov:ly.mS)(x2:ae)(x3:an)(x83:au)(x84:Int)(x85:Int):Option (Bool):=
 cond (aT x85 x84) (cond (aY x85 (List.length x83)) (cond (!aN ((List.getD x83 x85.toNat a6).1) (0:Int)) ((F82 N x3 ((List.getD x83 x85.toNat a6).1)).bind λwR=>cond (!wR) (some false) (cond (cZ (List.length x2.1:Int) (((List.getD x83 x85.toNat a6).2).1)) (some false) (ov x2 x3 x83 x84 (W .i64 (x85+1))))) (cond (cZ (List.length x2.1:Int) (((List.getD x83 x85.toNat a6).2).1)) (some false) (ov x2 x3 x83 x84 (W .i64 (x85+1))))) (none)) (HI x2 x3 x3.2.2.2.2.2.1 (List.length x3.2.2.2.2.2.1:Int) (0:Int))
def ly.xK(N:Nat):Nat→ly.mS
 |0,_,_,_,_,_=>none
 |n+1,x2,x3,x83,x84,x85=>ly.wP N (ly.xL N N) (ly.xK N n) x2 x3 x83 x84 x85
def ly.eN(N:Nat)(HJ:ly.mS)(cG:ly.bX)(x2:ae)(x3:an)(Ih:au)(W2:Int)(E6:Int):Option (Bool):=
 cond (aT E6 W2) (cond (aY E6 (List.length Ih)) (cond (aN ((List.getD Ih E6.toNat a6).1) (5:Int)) ((F82 N x3 (((List.getD Ih E6.toNat a6).2).1)).bind λr9=>cond (!r9) (some false) (cG x2 x3 Ih W2 (W .i64 (E6+1)))) (cond (aN ((List.getD Ih E6.toNat a6).1) (6:Int)) ((Bb N x3.1 (((List.getD Ih E6.toNat a6).2).1)).bind λod=>cond (aN od 0) (some false) (cG x2 x3 Ih W2 (W .i64 (E6+1)))) (cond (aN ((List.getD Ih E6.toNat a6).1) (7:Int)) ((Bb N x3.1 (((List.getD Ih E6.toNat a6).2).1)).bind λnU=>cond (aN nU 0) (some false) (cG x2 x3 Ih W2 (W .i64 (E6+1)))) (cG x2 x3 Ih W2 (W .i64 (E6+1)))))) (none)) (HJ x2 x3 x3.2.2.2.1 (List.length x3.2.2.2.1:Int) (0:Int))
def ly.l4(N:Nat):Nat→ly.bX
 |0,_,_,_,_,_=>none
 |n+1,x2,x3,Ih,W2,E6=>ly.eN N (ly.xK N N) (ly.l4 N n) x2 x3 Ih W2 E6
def ly.b(N:Nat)(fN:ly.bX)(a0:ae)(a1:an):Option (Bool):=
 (BT N a0).bind λr1=>cond (!r1) (some false) ((Em N a1.1 a1.2.1).bind λr2=>cond (!r2) (some false) ((BU N a1.2.2.1).bind λr3=>cond (!r3) (some false) ((Dz N a1.2.2.1).bind λr4=>(Xo N r4).bind λr5=>cond (!aN r5 0) (some false) ((Eo N a1.2.2.2.1).bind λr6=>cond (!r6) (some false) ((Dx N a1.2.2.2.2.2.1).bind λr7=>cond (!r7) (some false) (cond (!aN (List.length a1.2.2.2.2.1:Int) (List.length a0.1:Int)) (some false) (fN a0 a1 a1.2.2.1 (List.length a1.2.2.1:Int) (0:Int))))))))
def ly(N:Nat)(a0:ae)(a1:an):Option (Bool):=ly.b N (ly.l4 N N) a0 a1
abbrev oR.bO:=Int→aD→au→Int→Int→Option aD
def oR.eA(N:Nat)(bQ:oR.bO)(x1:Int)(x5:aD)(aX:au)(bc:Int)(bU:Int):Option aD:=
 cond (aT bU bc) (cond (aY bU (List.length aX)) (cond (aN ((List.getD aX bU.toNat a6).1) x1) (cond (small (List.length x5+List.length ([(((List.getD aX bU.toNat a6).2).1,((((List.getD aX bU.toNat a6).2).2).1,()))]))) (bQ x1 (x5++([(((List.getD aX bU.toNat a6).2).1,((((List.getD aX bU.toNat a6).2).2).1,()))])) aX bc (W .i64 (bU+1))) (none)) (bQ x1 x5 aX bc (W .i64 (bU+1)))) (none)) (some x5)
def oR.l5(N:Nat):Nat→oR.bO
 |0,_,_,_,_,_=>none
 |n+1,x1,x5,aX,bc,bU=>oR.eA N (oR.l5 N n) x1 x5 aX bc bU
def oR.b(N:Nat)(ff:oR.bO)(a0:au)(a1:Int):Option aD:=
 (og N a0).bind λr1=>cond (!r1) (some ([])) (ff a1 ([]) a0 (List.length a0:Int) (0:Int))
def oR(N:Nat)(a0:au)(a1:Int):Option aD:=oR.b N (oR.l5 N N) a0 a1
def F96(N:Nat)(a0:Int):Option (Int):=
 cond (aT a0 0) (some (W .u64 (0-(W .u64 a0)))) (some (W .u64 a0))
def VA(N:Nat)(a0:Int)(a1:Int):Option ((Int)×(Int)):=
 let v1:Int:=mW .and .u64 a0 4294967295;cond (aT 32 0) (none) (let v2:Int:=shr .u64 a0 32;let v3:Int:=mW .and .u64 a1 4294967295;cond (aT 32 0) (none) (let v4:Int:=shr .u64 a1 32;cond (aT 32 0) (none) (let v8:Int:=W .u64 ((W .u64 (v2*v3))+(shr .u64 (W .u64 (v1*v3)) (32:Int)));cond (aT 32 0) (none) (cond (aT 32 0) (none) (some ((W .u64 ((W .u64 ((W .u64 (v2*v4))+(shr .u64 v8 32)))+(shr .u64 (W .u64 ((mW .and .u64 v8 4294967295)+(W .u64 (v1*v4)))) (32:Int)))),(W .u64 (a0*a1))))))))
abbrev qk.S2:=Int→Int→br→Option (br×(Bool))
def qk.Rr(N:Nat)(x1:Int)(x2:Int)(x6:br):Option (br×(Bool)):=
 (tg N (0:Int) x2 (0:Int)).bind λr3=>(tg N (0:Int) x1 r3.2).bind λr4=>some (((W .i64 r4.1),(r3.1,())),true)
def qk.j7(N:Nat)(x1:Int)(x2:Int)(x6:br):Option (br×(Bool)):=qk.Rr N x1 x2 x6
def qk.b(N:Nat)(CP:qk.S2)(a0:Bool)(a1:Int)(a2:Int):Option (br×(Bool)):=
 cond (!a0) (cond (cZ 9223372036854775808 a1) (some (cv,false)) (some (((W .i64 a1),(a2,())),true))) (cond (aT 9223372036854775808 a1) (some (cv,false)) (cond (aN a1 9223372036854775808) (cond (aT 0 a2) (some (cv,false)) (CP a1 a2 cv)) (CP a1 a2 cv)))
def qk(N:Nat)(a0:Bool)(a1:Int)(a2:Int):Option (br×(Bool)):=qk.b N (qk.j7 N) a0 a1 a2
def IC(N:Nat)(a0:Int)(a1:Int):Option br:=
 (F96 N a0).bind λr1=>(F96 N a1).bind λr2=>(VA N r1 r2).bind λr3=>(qk N (!(p8 .bool (aT a0 0) (aT a1 0))) r3.1 r3.2).bind λr4=>some r4.1
def OR(N:Nat)(a0:br)(a1:br):Option (br×(Bool)):=
 (tf N a0.2.1 a1.2.1 (0:Int)).bind λr1=>(tf N (W .u64 a0.1) (W .u64 a1.1) r1.2).bind λr4=>let v5:Int:=W .i64 r4.1;cond (p8 .bool (aT a0.1 0) (aT a1.1 0)) (cond (!(p8 .bool (aT v5 0) (aT a0.1 0))) (some (cv,false)) (some ((v5,(r1.1,())),true))) (some ((v5,(r1.1,())),true))
abbrev Bz.bO:=ae→an→eJ→aD→Int→Int→Option (eJ×(Int))
def Bz.eA(N:Nat)(bQ:Bz.bO)(x2:ae)(x3:an)(x6:eJ)(ei:aD)(iE:Int)(iV:Int):Option (eJ×(Int)):=
 cond (aT iV iE) (cond (aY iV (List.length ei)) (cond (aY ((List.getD ei iV.toNat cv).1) (List.length x2.1)) (cond (aY ((List.getD x2.1 ((List.getD ei iV.toNat cv).1).toNat aW).1) (List.length x6)) (cond (aY ((List.getD ei iV.toNat cv).1) (List.length x3.2.2.2.2.1)) ((IC N (((List.getD ei iV.toNat cv).2).1) (List.getD x3.2.2.2.2.1 ((List.getD ei iV.toNat cv).1).toNat (0:Int))).bind λr5=>(OR N (List.getD x6 ((List.getD x2.1 ((List.getD ei iV.toNat cv).1).toNat aW).1).toNat cv) r5).bind λr6=>cond (aY ((List.getD x2.1 ((List.getD ei iV.toNat cv).1).toNat aW).1) (List.length x6)) (bQ x2 x3 (List.set x6 ((List.getD x2.1 ((List.getD ei iV.toNat cv).1).toNat aW).1).toNat r6.1) ei iE (W .i64 (iV+1))) (none)) (none)) (none)) (none)) (none)) (some (x6,(0:Int)))
def Bz.l5(N:Nat):Nat→Bz.bO
 |0,_,_,_,_,_,_=>none
 |n+1,x2,x3,x6,ei,iE,iV=>Bz.eA N (Bz.l5 N n) x2 x3 x6 ei iE iV
def Bz.b(N:Nat)(ff:Bz.bO)(a0:ae)(a1:an):Option (eJ×(Int)):=
 (ly N a0 a1).bind λr1=>cond (!r1) (some ([],(1:Int))) (cond (jA 4 4) ((oR N a1.2.2.2.1 (0:Int)).bind λr3=>ff a0 a1 (List.replicate (4:Int).toNat cv) r3 (List.length r3:Int) (0:Int)) (none))
def Bz(N:Nat)(a0:ae)(a1:an):Option (eJ×(Int)):=Bz.b N (Bz.l5 N N) a0 a1
def Sx(N:Nat)(a0:br)(a1:br):Option (br×(Bool)):=
 (tg N a0.2.1 a1.2.1 (0:Int)).bind λr1=>(tg N (W .u64 a0.1) (W .u64 a1.1) r1.2).bind λr4=>let v5:Int:=W .i64 r4.1;cond (!(p8 .bool (aT a0.1 0) (aT a1.1 0))) (cond (!(p8 .bool (aT v5 0) (aT a0.1 0))) (some (cv,false)) (some ((v5,(r1.1,())),true))) (some ((v5,(r1.1,())),true))
def ac1(N:Nat)(a0:br):Option (br×(Bool)):=
 (Sx N cv a0).bind λr1=>some (r1.1,r1.2)
def O7(N:Nat)(a0:br):Option (br×(Bool)):=
 cond (aT a0.1 0) ((ac1 N a0).bind λr1=>some (r1.1,r1.2)) (some (a0,true))
abbrev pQ.bO:=Int→(List (Int))→aO→Int→Int→Option (List (Int))
def pQ.eA(N:Nat)(bQ:pQ.bO)(x1:Int)(x5:List (Int))(bc:aO)(bU:Int)(ca:Int):Option (List (Int)):=
 cond (aT ca bU) (cond (aY ca (List.length bc)) (cond (aN ((List.getD bc ca.toNat aW).1) x1) (cond (small (List.length x5+List.length ([ca]))) (bQ x1 (x5++([ca])) bc bU (W .i64 (ca+1))) (none)) (bQ x1 x5 bc bU (W .i64 (ca+1)))) (none)) (some x5)
def pQ.l5(N:Nat):Nat→pQ.bO
 |0,_,_,_,_,_=>none
 |n+1,x1,x5,bc,bU,ca=>pQ.eA N (pQ.l5 N n) x1 x5 bc bU ca
def pQ.b(N:Nat)(ff:pQ.bO)(a0:ae)(a1:Int):Option (List (Int)):=
 (BT N a0).bind λr1=>cond (!r1) (some ([])) (ff a1 ([]) a0.1 (List.length a0.1:Int) (0:Int))
def pQ(N:Nat)(a0:ae)(a1:Int):Option (List (Int)):=pQ.b N (pQ.l5 N N) a0 a1
def YC(N:Nat)(a0:br):Option ((Int)×(Int)):=
 cond (cZ 0 a0.1) (some ((W .u64 a0.1),a0.2.1)) ((tg N (0:Int) a0.2.1 (0:Int)).bind λr2=>(tg N (0:Int) (W .u64 a0.1) r2.2).bind λr4=>some (r4.1,r2.1))
abbrev mY.S2:=Int→Int→Option (Int)
abbrev mY.akX:=Int→Int→Option (Int)
def mY.Rr(N:Nat)(x0:Int)(x2:Int):Option (Int):=
 cond (cZ 256 x0) (cond (aT 8 0) (none) (let v8:Int:=W .u8 (shr .u64 x0 8);cond (aY v8 (ByteArray.size (strOf [0,1,2,2,3,3,3,3,4,4,4,4,4,4,4,4,5,5,5,5,5,5,5,5,5,5,5,5,5,5,5,5,6,6,6,6,6,6,6,6,6,6,6,6,6,6,6,6,6,6,6,6,6,6,6,6,6,6,6,6,6,6,6,6,7,7,7,7,7,7,7,7,7,7,7,7,7,7,7,7,7,7,7,7,7,7,7,7,7,7,7,7,7,7,7,7,7,7,7,7,7,7,7,7,7,7,7,7,7,7,7,7,7,7,7,7,7,7,7,7,7,7,7,7,7,7,7,7,8,8,8,8,8,8,8,8,8,8,8,8,8,8,8,8,8,8,8,8,8,8,8,8,8,8,8,8,8,8,8,8,8,8,8,8,8,8,8,8,8,8,8,8,8,8,8,8,8,8,8,8,8,8,8,8,8,8,8,8,8,8,8,8,8,8,8,8,8,8,8,8,8,8,8,8,8,8,8,8,8,8,8,8,8,8,8,8,8,8,8,8,8,8,8,8,8,8,8,8,8,8,8,8,8,8,8,8,8,8,8,8,8,8,8,8,8,8,8,8,8,8,8,8,8,8,8,8]))) (some (W .i64 ((W .i64 (x2+8))+(W .i64 (((strOf [0,1,2,2,3,3,3,3,4,4,4,4,4,4,4,4,5,5,5,5,5,5,5,5,5,5,5,5,5,5,5,5,6,6,6,6,6,6,6,6,6,6,6,6,6,6,6,6,6,6,6,6,6,6,6,6,6,6,6,6,6,6,6,6,7,7,7,7,7,7,7,7,7,7,7,7,7,7,7,7,7,7,7,7,7,7,7,7,7,7,7,7,7,7,7,7,7,7,7,7,7,7,7,7,7,7,7,7,7,7,7,7,7,7,7,7,7,7,7,7,7,7,7,7,7,7,7,7,8,8,8,8,8,8,8,8,8,8,8,8,8,8,8,8,8,8,8,8,8,8,8,8,8,8,8,8,8,8,8,8,8,8,8,8,8,8,8,8,8,8,8,8,8,8,8,8,8,8,8,8,8,8,8,8,8,8,8,8,8,8,8,8,8,8,8,8,8,8,8,8,8,8,8,8,8,8,8,8,8,8,8,8,8,8,8,8,8,8,8,8,8,8,8,8,8,8,8,8,8,8,8,8,8,8,8,8,8,8,8,8,8,8,8,8,8,8,8,8,8,8,8,8,8,8,8,8]).data.getD v8.toNat 0).toNat:Int))))) (none))) (let v11:Int:=W .u8 x0;cond (aY v11 (ByteArray.size (strOf [0,1,2,2,3,3,3,3,4,4,4,4,4,4,4,4,5,5,5,5,5,5,5,5,5,5,5,5,5,5,5,5,6,6,6,6,6,6,6,6,6,6,6,6,6,6,6,6,6,6,6,6,6,6,6,6,6,6,6,6,6,6,6,6,7,7,7,7,7,7,7,7,7,7,7,7,7,7,7,7,7,7,7,7,7,7,7,7,7,7,7,7,7,7,7,7,7,7,7,7,7,7,7,7,7,7,7,7,7,7,7,7,7,7,7,7,7,7,7,7,7,7,7,7,7,7,7,7,8,8,8,8,8,8,8,8,8,8,8,8,8,8,8,8,8,8,8,8,8,8,8,8,8,8,8,8,8,8,8,8,8,8,8,8,8,8,8,8,8,8,8,8,8,8,8,8,8,8,8,8,8,8,8,8,8,8,8,8,8,8,8,8,8,8,8,8,8,8,8,8,8,8,8,8,8,8,8,8,8,8,8,8,8,8,8,8,8,8,8,8,8,8,8,8,8,8,8,8,8,8,8,8,8,8,8,8,8,8,8,8,8,8,8,8,8,8,8,8,8,8,8,8,8,8,8,8]))) (some (W .i64 (x2+(W .i64 (((strOf [0,1,2,2,3,3,3,3,4,4,4,4,4,4,4,4,5,5,5,5,5,5,5,5,5,5,5,5,5,5,5,5,6,6,6,6,6,6,6,6,6,6,6,6,6,6,6,6,6,6,6,6,6,6,6,6,6,6,6,6,6,6,6,6,7,7,7,7,7,7,7,7,7,7,7,7,7,7,7,7,7,7,7,7,7,7,7,7,7,7,7,7,7,7,7,7,7,7,7,7,7,7,7,7,7,7,7,7,7,7,7,7,7,7,7,7,7,7,7,7,7,7,7,7,7,7,7,7,8,8,8,8,8,8,8,8,8,8,8,8,8,8,8,8,8,8,8,8,8,8,8,8,8,8,8,8,8,8,8,8,8,8,8,8,8,8,8,8,8,8,8,8,8,8,8,8,8,8,8,8,8,8,8,8,8,8,8,8,8,8,8,8,8,8,8,8,8,8,8,8,8,8,8,8,8,8,8,8,8,8,8,8,8,8,8,8,8,8,8,8,8,8,8,8,8,8,8,8,8,8,8,8,8,8,8,8,8,8,8,8,8,8,8,8,8,8,8,8,8,8,8,8,8,8,8,8]).data.getD v11.toNat 0).toNat:Int))))) (none))
def mY.j7(N:Nat)(x0:Int)(x2:Int):Option (Int):=mY.Rr N x0 x2
def mY.j4b(N:Nat)(CP:mY.S2)(x0:Int)(x2:Int):Option (Int):=
 cond (cZ 65536 x0) (cond (aT 16 0) (none) (CP (shr .u64 x0 16) (W .i64 (x2+16)))) (CP x0 x2)
def mY.j4(N:Nat)(x0:Int)(x2:Int):Option (Int):=mY.j4b N (mY.j7 N) x0 x2
def mY.b(N:Nat)(aax:mY.akX)(a0:Int):Option (Int):=
 cond (cZ 4294967296 a0) (cond (aT 32 0) (none) (aax (shr .u64 a0 32) (32:Int))) (aax a0 (0:Int))
def mY(N:Nat)(a0:Int):Option (Int):=mY.b N (mY.j4 N) a0
def ach(N:Nat)(a0:Int):Option (Int):=
 (mY N a0).bind λr1=>some (W .i64 ((64:Int)-r1))
abbrev eB.aqE:=Int→Int→Int→Int→Int→Int→Option ((Int)×(Int))
abbrev eB.sQ:=Int→Int→Int→Int→Int→Int→Int→Int→Int→Option ((Int)×(Int))
abbrev eB.aay:=Int→Int→Int→Int→Int→Int→Int→Int→Option ((Int)×(Int))
abbrev eB.HK:=Int→Int→Int→Int→Int→Int→Int→Int→Int→Option ((Int)×(Int))
def eB.aki(N:Nat)(x2:Int)(x8:Int)(ca:Int)(dd:Int)(ei:Int)(iE:Int):Option ((Int)×(Int)):=
 cond (aT x8 0) (none) (some ((W .u64 ((W .u64 (dd*4294967296))+iE)),(shr .u64 (W .u64 ((W .u64 ((W .u64 (ei*4294967296))+ca))-(W .u64 (iE*x2)))) x8)))
def eB.j28(N:Nat)(x2:Int)(x8:Int)(ca:Int)(dd:Int)(ei:Int)(iE:Int):Option ((Int)×(Int)):=eB.aki N x2 x8 ca dd ei iE
def eB.Ef(N:Nat)(aaz:eB.aqE)(sR:eB.sQ)(x2:Int)(x8:Int)(x9:Int)(bb:Int)(ca:Int)(dd:Int)(eI:Int)(ei:Int)(iE:Int):Option ((Int)×(Int)):=
 cond (cZ 4294967296 iE) (let v30:Int:=W .u64 (iE-1);let v31:Int:=W .u64 (eI+x9);cond (cZ 4294967296 v31) (aaz x2 x8 ca dd ei v30) (sR x2 x8 x9 bb ca dd v31 ei v30)) (cond (aT (W .u64 ((W .u64 ((4294967296:Int)*eI))+ca)) (W .u64 (iE*bb))) (let v43:Int:=W .u64 (iE-1);let v44:Int:=W .u64 (eI+x9);cond (cZ 4294967296 v44) (aaz x2 x8 ca dd ei v43) (sR x2 x8 x9 bb ca dd v44 ei v43)) (aaz x2 x8 ca dd ei iE))
def eB.Ds(N:Nat):Nat→eB.sQ
 |0,_,_,_,_,_,_,_,_,_=>none
 |n+1,x2,x8,x9,bb,ca,dd,eI,ei,iE=>eB.Ef N (eB.j28 N) (eB.Ds N n) x2 x8 x9 bb ca dd eI ei iE
def eB.RT(N:Nat)(P2:eB.sQ)(x2:Int)(x8:Int)(x9:Int)(bb:Int)(aX:Int)(bU:Int)(ca:Int)(dd:Int):Option ((Int)×(Int)):=
 let v25:Int:=W .u64 ((W .u64 ((W .u64 (aX*4294967296))+bU))-(W .u64 (dd*x2)));cond (aN x9 0) (none) (let v26:Int:=W .u64 (quo v25 x9);P2 x2 x8 x9 bb ca dd (W .u64 (v25-(W .u64 (v26*x9)))) v25 v26)
def eB.Xl(N:Nat)(x2:Int)(x8:Int)(x9:Int)(bb:Int)(aX:Int)(bU:Int)(ca:Int)(dd:Int):Option ((Int)×(Int)):=eB.RT N (eB.Ds N N) x2 x8 x9 bb aX bU ca dd
def eB.N9(N:Nat)(KC:eB.aay)(UM:eB.HK)(x2:Int)(x8:Int)(x9:Int)(bb:Int)(aX:Int)(bU:Int)(ca:Int)(dd:Int)(eI:Int):Option ((Int)×(Int)):=
 cond (cZ 4294967296 dd) (let v19:Int:=W .u64 (dd-1);let v20:Int:=W .u64 (eI+x9);cond (cZ 4294967296 v20) (KC x2 x8 x9 bb aX bU ca v19) (UM x2 x8 x9 bb aX bU ca v19 v20)) (cond (aT (W .u64 ((W .u64 ((4294967296:Int)*eI))+bU)) (W .u64 (dd*bb))) (let v48:Int:=W .u64 (dd-1);let v49:Int:=W .u64 (eI+x9);cond (cZ 4294967296 v49) (KC x2 x8 x9 bb aX bU ca v48) (UM x2 x8 x9 bb aX bU ca v48 v49)) (KC x2 x8 x9 bb aX bU ca dd))
def eB.N8(N:Nat):Nat→eB.HK
 |0,_,_,_,_,_,_,_,_,_=>none
 |n+1,x2,x8,x9,bb,aX,bU,ca,dd,eI=>eB.N9 N (eB.Xl N) (eB.N8 N n) x2 x8 x9 bb aX bU ca dd eI
def eB.b(N:Nat)(aaA:eB.HK)(a0:Int)(a1:Int)(a2:Int):Option ((Int)×(Int)):=
 cond (aN a2 0) (none) (cond (cZ a2 a0) (none) (cond (aN a0 0) (cond (aN a2 0) (none) (cond (aN a2 0) (none) (some ((W .u64 (quo a1 a2)),(rem a1 a2))))) ((ach N a2).bind λr3=>let v4:Int:=W .u64 r3;cond (aT v4 0) (none) (let v5:Int:=W .u64 (shl .u64 a2 v4);cond (aT 32 0) (none) (let v6:Int:=shr .u64 v5 32;cond (aT v4 0) (none) (let v9:Int:=W .u64 ((64:Int)-v4);cond (aT v9 0) (none) (let v11:Int:=mW .or .u64 (W .u64 (shl .u64 a0 v4)) (shr .u64 a1 v9);cond (aT v4 0) (none) (let Rt:Int:=W .u64 (shl .u64 a1 v4);cond (aT 32 0) (none) (cond (aN v6 0) (none) (let v15:Int:=W .u64 (quo v11 v6);aaA v5 v4 v6 (mW .and .u64 v5 4294967295) v11 (shr .u64 Rt 32) (mW .and .u64 Rt 4294967295) v15 (W .u64 (v11-(W .u64 (v15*v6))))))))))))))
def eB(N:Nat)(a0:Int)(a1:Int)(a2:Int):Option ((Int)×(Int)):=eB.b N (eB.N8 N N) a0 a1 a2
abbrev uZ.P3:=br→Int→Int→Int→Option (br×(Int)×(Bool))
def uZ.A7(N:Nat)(x4:br)(bb:Int)(aX:Int)(bc:Int):Option (br×(Int)×(Bool)):=
 (qk N true bb bc).bind λod=>some (od.1,(W .i64 aX),true)
def uZ.Lp(N:Nat)(x4:br)(bb:Int)(aX:Int)(bc:Int):Option (br×(Int)×(Bool)):=uZ.A7 N x4 bb aX bc
def uZ.b(N:Nat)(wG:uZ.P3)(a0:br)(a1:Int):Option (br×(Int)×(Bool)):=
 cond (aT a1 1) (some (cv,(0:Int),false)) ((YC N a0).bind λr1=>let v2:Int:=W .u64 a1;(eB N (0:Int) r1.1 v2).bind λr3=>(eB N r3.2 r1.2 v2).bind λr4=>cond (cZ 0 a0.1) (some (((W .i64 r3.1),(r4.1,())),(W .i64 r4.2),true)) (cond (aT 0 r4.2) ((tf N r4.1 (1:Int) (0:Int)).bind λr7=>wG cv (W .u64 (r3.1+r7.2)) (W .u64 (v2-r4.2)) r7.1) (wG cv r3.1 r4.2 r4.1)))
def uZ(N:Nat)(a0:br)(a1:Int):Option (br×(Int)×(Bool)):=uZ.b N (uZ.Lp N) a0 a1
def Ot(N:Nat)(a0:br):Option ((Int)×(Bool)):=
 cond (aT 63 0) (none) (cond (!aN a0.1 (shr .i64 (W .i64 a0.2.1) 63)) (some ((0:Int),false)) (some ((W .i64 a0.2.1),true)))
abbrev vn.BN:=Int→ae→an→aO→br→Int→Int→eJ→Int→Int→Option (aO×(Int))
abbrev vn.iu:=Int→ae→an→aO→eJ→Int→Int→Option (aO×(Int))
def vn.s0(N:Nat)(iv:vn.iu)(x2:Int)(x3:ae)(x4:an)(bb:aO)(bc:br)(dd:Int)(iV:Int)(CQ:eJ)(W3:Int)(Ms:Int):Option (aO×(Int)):=
 cond (aN iV 0) (iv x2 x3 x4 bb CQ W3 (W .i64 (Ms+1))) (let Rt:Int:=W .i64 (x2+(List.length bb:Int));(Xo N bc).bind λnU=>cond (aT 0 nU) (cond (small (List.length bb+List.length ([(Rt,(dd,((2:Int),(iV,()))))]))) (iv x2 x3 x4 (bb++([(Rt,(dd,((2:Int),(iV,()))))])) CQ W3 (W .i64 (Ms+1))) (none)) (cond (small (List.length bb+List.length ([(Rt,(dd,((1:Int),(iV,()))))]))) (iv x2 x3 x4 (bb++([(Rt,(dd,((1:Int),(iV,()))))])) CQ W3 (W .i64 (Ms+1))) (none)))
def vn.ze(N:Nat)(iv:vn.iu)(x2:Int)(x3:ae)(x4:an)(bb:aO)(bc:br)(dd:Int)(iV:Int)(CQ:eJ)(W3:Int)(Ms:Int):Option (aO×(Int)):=vn.s0 N iv x2 x3 x4 bb bc dd iV CQ W3 Ms
def vn.tX(N:Nat)(qG:vn.BN)(iv:vn.iu)(x2:Int)(x3:ae)(x4:an)(bb:aO)(CQ:eJ)(W3:Int)(Ms:Int):Option (aO×(Int)):=
 cond (aT Ms W3) (cond (aY Ms (List.length CQ)) ((O7 N (List.getD CQ Ms.toNat cv)).bind λr3=>(ID N x3.2.2.2.2.2.2.1).bind λr4=>(IG N r3.1 r4).bind λr5=>cond (cZ r5 0) (iv x2 x3 x4 bb CQ W3 (W .i64 (Ms+1))) ((pQ N x3 Ms).bind λr7=>cond (aY 0 (List.length r7)) (cond (aY (List.getD r7 (0:Int).toNat (0:Int)) (List.length x4.2.2.2.2.1)) ((uZ N r3.1 (List.getD x4.2.2.2.2.1 (List.getD r7 (0:Int).toNat (0:Int)).toNat (0:Int))).bind λr8=>(Ot N r8.1).bind λr9=>cond (!r9.2) (qG x2 x3 x4 bb (List.getD CQ Ms.toNat cv) (List.getD r7 (0:Int).toNat (0:Int)) (1000000000:Int) CQ W3 Ms) (cond (aT 1000000000 r9.1) (qG x2 x3 x4 bb (List.getD CQ Ms.toNat cv) (List.getD r7 (0:Int).toNat (0:Int)) (1000000000:Int) CQ W3 Ms) (qG x2 x3 x4 bb (List.getD CQ Ms.toNat cv) (List.getD r7 (0:Int).toNat (0:Int)) r9.1 CQ W3 Ms))) (none)) (none))) (none)) (some (bb,(0:Int)))
def vn.l6(N:Nat):Nat→vn.iu
 |0,_,_,_,_,_,_,_=>none
 |n+1,x2,x3,x4,bb,CQ,W3,Ms=>vn.tX N (vn.ze N (vn.l6 N n)) (vn.l6 N n) x2 x3 x4 bb CQ W3 Ms
def vn.b(N:Nat)(wv:vn.iu)(a0:ae)(a1:an)(a2:Int):Option (aO×(Int)):=
 (Bz N a0 a1).bind λr1=>cond (!aN r1.2 0) (some ([],(1:Int))) (cond (aT a2 1) (some ([],(1:Int))) (cond (aT 1099511627772 a2) (some ([],(1:Int))) (wv a2 a0 a1 ([]) r1.1 (List.length r1.1:Int) (0:Int))))
def vn(N:Nat)(a0:ae)(a1:an)(a2:Int):Option (aO×(Int)):=vn.b N (vn.l6 N N) a0 a1 a2
def SA(N:Nat)(a0:Int):Option (Bool):=
 cond (cZ 1 a0) (some (cZ a0 1000000000)) (some false)
def F48(N:Nat)(a0:bT):Option (Bool):=
 cond (cZ 1 a0.1) (cond (cZ a0.1 1099511627776) (cond (cZ 0 a0.2.1) (cond (aT a0.2.1 6) (cond (aN a0.2.2.1 1) ((SA N a0.2.2.2.1).bind λr1=>some r1) (cond (aN a0.2.2.1 2) ((SA N a0.2.2.2.1).bind λr2=>some r2) (some false))) (some false)) (some false)) (some false)) (some false)
abbrev gw.mI:=bm→Int→au→Int→cK→Int→bm→Int→Int→Option au
abbrev gw.bO:=bm→Int→au→Int→Option au
def gw.xG(N:Nat)(bQ:gw.bO)(qz:gw.mI)(x0:bm)(x1:Int)(x5:au)(x6:Int)(x7:cK)(bU:Int)(iE:bm)(iV:Int)(zV:Int):Option au:=
 cond (aT zV iV) (cond (aY zV (List.length iE)) (cond (!aN (((List.getD iE zV.toNat eT).2).1) x1) (qz x0 x1 x5 x6 x7 bU iE iV (W .i64 (zV+1))) (cond (!aN ((((List.getD iE zV.toNat eT).2).2).1) x6) (qz x0 x1 x5 x6 x7 bU iE iV (W .i64 (zV+1))) (cond (aN (((((List.getD iE zV.toNat eT).2).2).2).1) (1:Int)) (qz x0 x1 x5 x6 (x7.1,((W .i64 (x7.2.1+((((((List.getD iE zV.toNat eT).2).2).2).2).1))),x7.2.2)) bU iE iV (W .i64 (zV+1))) (qz x0 x1 x5 x6 (x7.1,(x7.2.1,((W .i64 (x7.2.2.1+((((((List.getD iE zV.toNat eT).2).2).2).2).1))),x7.2.2.2))) bU iE iV (W .i64 (zV+1)))))) (none)) (cond (aT 0 (W .i64 (x7.2.1+x7.2.2.1))) (cond (small (List.length x5+List.length ([x7]))) (bQ x0 x1 (x5++([x7])) (W .i64 (bU+1))) (none)) (bQ x0 x1 x5 (W .i64 (bU+1))))
def gw.l9(N:Nat)(bQ:gw.bO):Nat→gw.mI
 |0,_,_,_,_,_,_,_,_,_=>none
 |n+1,x0,x1,x5,x6,x7,bU,iE,iV,zV=>gw.xG N bQ (gw.l9 N bQ n) x0 x1 x5 x6 x7 bU iE iV zV
def gw.eA(N:Nat)(zN:gw.mI)(bQ:gw.bO)(x0:bm)(x1:Int)(x5:au)(bU:Int):Option au:=
 cond (aT bU 6) (zN x0 x1 x5 bU (bU,cv) bU x0 (List.length x0:Int) (0:Int)) (some x5)
def gw.l5(N:Nat):Nat→gw.bO
 |0,_,_,_,_=>none
 |n+1,x0,x1,x5,bU=>gw.eA N (gw.l9 N (gw.l5 N n) N) (gw.l5 N n) x0 x1 x5 bU
def gw.b(N:Nat)(ff:gw.bO)(a0:bm)(a1:Int):Option au:=
 (Dx N a0).bind λr1=>cond (!r1) (some ([])) (ff a0 a1 ([]) (0:Int))
def gw(N:Nat)(a0:bm)(a1:Int):Option au:=gw.b N (gw.l5 N N) a0 a1
abbrev gM.S3:=au→c7→Int→Option au
abbrev gM.akX:=au→c7→Int→Option au
abbrev gM.cO:=au→c7→Int→Option au
def gM.Oe(N:Nat)(x0:au)(x3:c7)(x5:Int):Option au:=
 cond (aN x3.2.2.2.1 1) (cond (aY x5 (List.length x0)) (cond (aY x5 (List.length x0)) (some (List.set x0 x5.toNat ((List.getD x0 x5.toNat a6).1,((W .i64 ((((List.getD x0 x5.toNat a6).2).1)+x3.2.2.2.2.1)),((List.getD x0 x5.toNat a6).2).2)))) (none)) (none)) (cond (aY x5 (List.length x0)) (cond (aY x5 (List.length x0)) (some (List.set x0 x5.toNat ((List.getD x0 x5.toNat a6).1,(((List.getD x0 x5.toNat a6).2).1,((W .i64 (((((List.getD x0 x5.toNat a6).2).2).1)+x3.2.2.2.2.1)),(((List.getD x0 x5.toNat a6).2).2).2))))) (none)) (none))
def gM.j6(N:Nat)(x0:au)(x3:c7)(x5:Int):Option au:=gM.Oe N x0 x3 x5
def gM.j4b(N:Nat)(CR:gM.S3)(x0:au)(x3:c7)(x5:Int):Option au:=
 cond (aN x5 (List.length x0:Int)) ((kM N x0 x5 ([(x3.2.2.1,cv)])).bind λr4=>CR r4 x3 x5) (cond (aY x5 (List.length x0)) (cond (!aN ((List.getD x0 x5.toNat a6).1) x3.2.2.1) ((kM N x0 x5 ([(x3.2.2.1,cv)])).bind λkF=>CR kF x3 x5) (CR x0 x3 x5)) (none))
def gM.j4(N:Nat)(x0:au)(x3:c7)(x5:Int):Option au:=gM.j4b N (gM.j6 N) x0 x3 x5
def gM.fy(N:Nat)(aax:gM.akX)(dO:gM.cO)(x0:au)(x3:c7)(x5:Int):Option au:=
 cond (aT x5 (List.length x0:Int)) (cond (aY x5 (List.length x0)) (cond (aT ((List.getD x0 x5.toNat a6).1) x3.2.2.1) (dO x0 x3 (W .i64 (x5+1))) (aax x0 x3 x5)) (none)) (aax x0 x3 x5)
def gM.l2(N:Nat):Nat→gM.cO
 |0,_,_,_=>none
 |n+1,x0,x3,x5=>gM.fy N (gM.j4 N) (gM.l2 N n) x0 x3 x5
def gM.b(N:Nat)(gG:gM.cO)(a0:au)(a1:c7):Option au:=
 gG a0 a1 (0:Int)
def gM(N:Nat)(a0:au)(a1:c7):Option au:=gM.b N (gM.l2 N N) a0 a1
abbrev pN.cO:=aD→ae→aD→Int→Int→Option (Bool)
def pN.fy(N:Nat)(dO:pN.cO)(x1:aD)(x2:ae)(x7:aD)(x8:Int)(x9:Int):Option (Bool):=
 cond (aT x9 x8) (cond (aY x9 (List.length x7)) (cond (aT ((List.getD x7 x9.toNat cv).1) (0:Int)) (some false) (cond (cZ (List.length x2.1:Int) ((List.getD x7 x9.toNat cv).1)) (some false) (cond (aN (((List.getD x7 x9.toNat cv).2).1) (0:Int)) (some false) ((R2 N (((List.getD x7 x9.toNat cv).2).1)).bind λr2=>cond (!r2) (some false) (cond (aT 0 x9) (let v3:Int:=W .i64 (x9-1);cond (aY v3 (List.length x1)) (cond (cZ ((List.getD x7 x9.toNat cv).1) ((List.getD x1 v3.toNat cv).1)) (some false) (dO x1 x2 x7 x8 (W .i64 (x9+1)))) (none)) (dO x1 x2 x7 x8 (W .i64 (x9+1)))))))) (none)) ((BT N x2).bind λr6=>some r6)
def pN.l2(N:Nat):Nat→pN.cO
 |0,_,_,_,_,_=>none
 |n+1,x1,x2,x7,x8,x9=>pN.fy N (pN.l2 N n) x1 x2 x7 x8 x9
def pN.b(N:Nat)(gG:pN.cO)(a0:ae)(a1:aD):Option (Bool):=
 gG a1 a0 a1 (List.length a1:Int) (0:Int)
def pN(N:Nat)(a0:ae)(a1:aD):Option (Bool):=pN.b N (pN.l2 N N) a0 a1
abbrev pV.cO:=au→ae→au→Int→Int→Option (Bool)
def pV.fy(N:Nat)(dO:pV.cO)(x1:au)(x2:ae)(x7:au)(x8:Int)(x9:Int):Option (Bool):=
 cond (aT x9 x8) (cond (aY x9 (List.length x7)) (cond (aT ((List.getD x7 x9.toNat a6).1) (0:Int)) (some false) (cond (cZ (List.length x2.1:Int) ((List.getD x7 x9.toNat a6).1)) (some false) (cond (aT (((List.getD x7 x9.toNat a6).2).1) (0:Int)) (some false) (cond (aT 33000000000 (((List.getD x7 x9.toNat a6).2).1)) (some false) (cond (aT ((((List.getD x7 x9.toNat a6).2).2).1) (0:Int)) (some false) (cond (aT 33000000000 ((((List.getD x7 x9.toNat a6).2).2).1)) (some false) (cond (aN (((List.getD x7 x9.toNat a6).2).1) (0:Int)) (cond (aN ((((List.getD x7 x9.toNat a6).2).2).1) (0:Int)) (some false) (cond (aT 0 x9) (let v2:Int:=W .i64 (x9-1);cond (aY v2 (List.length x1)) (cond (cZ ((List.getD x7 x9.toNat a6).1) ((List.getD x1 v2.toNat a6).1)) (some false) (dO x1 x2 x7 x8 (W .i64 (x9+1)))) (none)) (dO x1 x2 x7 x8 (W .i64 (x9+1))))) (cond (aT 0 x9) (let v5:Int:=W .i64 (x9-1);cond (aY v5 (List.length x1)) (cond (cZ ((List.getD x7 x9.toNat a6).1) ((List.getD x1 v5.toNat a6).1)) (some false) (dO x1 x2 x7 x8 (W .i64 (x9+1)))) (none)) (dO x1 x2 x7 x8 (W .i64 (x9+1))))))))))) (none)) ((BT N x2).bind λr8=>some r8)
def pV.l2(N:Nat):Nat→pV.cO
 |0,_,_,_,_,_=>none
 |n+1,x1,x2,x7,x8,x9=>pV.fy N (pV.l2 N n) x1 x2 x7 x8 x9
def pV.b(N:Nat)(gG:pV.cO)(a0:ae)(a1:au):Option (Bool):=
 gG a1 a0 a1 (List.length a1:Int) (0:Int)
def pV(N:Nat)(a0:ae)(a1:au):Option (Bool):=pV.b N (pV.l2 N N) a0 a1
abbrev gO.gm:=Int→br→Int→Int→Int→au→Int→Int→Option (br×(Int))
abbrev gO.e7:=au→Int→br→Int→Int→Int→aD→Int→Int→Option (br×(Int))
def gO.mF(N:Nat)(iW:gO.gm)(x3:Int)(x8:br)(bb:Int)(aX:Int)(bc:Int)(Ih:au)(W2:Int)(E6:Int):Option (br×(Int)):=
 cond (aT E6 W2) (cond (aY E6 (List.length Ih)) (cond (aN ((List.getD Ih E6.toNat a6).1) x3) (iW x3 x8 bb (((List.getD Ih E6.toNat a6).2).1) ((((List.getD Ih E6.toNat a6).2).2).1) Ih W2 (W .i64 (E6+1))) (iW x3 x8 bb aX bc Ih W2 (W .i64 (E6+1)))) (none)) ((ID N bb).bind λr9=>(ID N aX).bind λkF=>(OR N r9 kF).bind λod=>(ID N bb).bind λpn=>(ID N bc).bind λnU=>(Sx N pn nU).bind λsU=>(O7 N od.1).bind λtN=>(O7 N sU.1).bind λyQ=>(IG N tN.1 yQ.1).bind λwR=>cond (aT wR 0) (some (yQ.1,(0:Int))) (some (tN.1,(0:Int))))
def gO.oi(N:Nat):Nat→gO.gm
 |0,_,_,_,_,_,_,_,_=>none
 |n+1,x3,x8,bb,aX,bc,Ih,W2,E6=>gO.mF N (gO.oi N n) x3 x8 bb aX bc Ih W2 E6
def gO.p6(N:Nat)(vk:gO.gm)(eO:gO.e7)(x2:au)(x3:Int)(x8:br)(bb:Int)(aX:Int)(bc:Int)(x44:aD)(x45:Int)(x46:Int):Option (br×(Int)):=
 cond (aT x46 x45) (cond (aY x46 (List.length x44)) (cond (aN ((List.getD x44 x46.toNat cv).1) x3) (eO x2 x3 x8 (((List.getD x44 x46.toNat cv).2).1) aX bc x44 x45 (W .i64 (x46+1))) (eO x2 x3 x8 bb aX bc x44 x45 (W .i64 (x46+1)))) (none)) (vk x3 x8 bb aX bc x2 (List.length x2:Int) (0:Int))
def gO.l7(N:Nat):Nat→gO.e7
 |0,_,_,_,_,_,_,_,_,_=>none
 |n+1,x2,x3,x8,bb,aX,bc,x44,x45,x46=>gO.p6 N (gO.oi N N) (gO.l7 N n) x2 x3 x8 bb aX bc x44 x45 x46
def gO.b(N:Nat)(uj:gO.e7)(a0:ae)(a1:aD)(a2:au)(a3:Int):Option (br×(Int)):=
 (pN N a0 a1).bind λr1=>cond (!r1) (some (cv,(1:Int))) ((pV N a0 a2).bind λr2=>cond (!r2) (some (cv,(1:Int))) (cond (aT a3 0) (some (cv,(3:Int))) (cond (cZ (List.length a0.1:Int) a3) (some (cv,(3:Int))) (uj a2 a3 cv (0:Int) (0:Int) (0:Int) a1 (List.length a1:Int) (0:Int)))))
def gO(N:Nat)(a0:ae)(a1:aD)(a2:au)(a3:Int):Option (br×(Int)):=gO.b N (gO.l7 N N) a0 a1 a2 a3
def ac6(N:Nat)(a0:br)(a1:Int):Option (br×(Bool)):=
 (YC N a0).bind λr1=>(F96 N a1).bind λr2=>(VA N r1.2 r2).bind λr3=>(VA N r1.1 r2).bind λr4=>(tf N r4.2 r3.1 (0:Int)).bind λr5=>cond (!aN (W .u64 (r4.1+r5.2)) (0:Int)) (some (cv,false)) ((qk N (!(p8 .bool (aT a0.1 0) (aT a1 0))) r5.1 r3.2).bind λr7=>some (r7.1,r7.2))
abbrev qX.bO:=aD→au→ae→br→eJ→aO→Int→Int→Option (br×(Int))
def qX.eA(N:Nat)(bQ:qX.bO)(x1:aD)(x2:au)(x3:ae)(x6:br)(x8:eJ)(x29:aO)(zW:Int)(KD:Int):Option (br×(Int)):=
 cond (aT KD zW) (cond (aY KD (List.length x29)) ((gO N x3 x1 x2 KD).bind λr4=>(ac6 N r4.1 ((((List.getD x29 KD.toNat aW).2).2).1)).bind λr5=>cond (small (List.length x8+List.length ([r5.1]))) (bQ x1 x2 x3 x6 (x8++([r5.1])) x29 zW (W .i64 (KD+1))) (none)) (none)) ((mZ N x8).bind λr8=>some (r8.1,(0:Int)))
def qX.l5(N:Nat):Nat→qX.bO
 |0,_,_,_,_,_,_,_,_=>none
 |n+1,x1,x2,x3,x6,x8,x29,zW,KD=>qX.eA N (qX.l5 N n) x1 x2 x3 x6 x8 x29 zW KD
def qX.b(N:Nat)(ff:qX.bO)(a0:ae)(a1:aD)(a2:au):Option (br×(Int)):=
 (pN N a0 a1).bind λr1=>cond (!r1) (some (cv,(1:Int))) ((pV N a0 a2).bind λr2=>cond (!r2) (some (cv,(1:Int))) (ff a1 a2 a0 cv ([]) a0.1 (List.length a0.1:Int) (0:Int)))
def qX(N:Nat)(a0:ae)(a1:aD)(a2:au):Option (br×(Int)):=qX.b N (qX.l5 N N) a0 a1 a2
def Zy(N:Nat)(a0:c7)(a1:Int):Option (br×(Int)):=
 (VH N a0).bind λr1=>cond (!r1) (some (cv,(1:Int))) ((F85 N a1).bind λr2=>cond (!r2) (some (cv,(1:Int))) ((IC N a0.2.2.2.2.1 (W .i64 (a0.2.2.2.2.2.1-a1))).bind λr4=>cond (aN a0.2.2.2.1 2) ((IC N a0.2.2.2.2.1 (W .i64 (a1-a0.2.2.2.2.2.1))).bind λr6=>(Xo N r6).bind λr7=>cond (aT r7 0) (some (cv,(0:Int))) (some (r6,(0:Int)))) ((Xo N r4).bind λr8=>cond (aT r8 0) (some (cv,(0:Int))) (some (r4,(0:Int))))))
abbrev pO.bX:=Int→Int→au→Int→Int→Option (Int)
def pO.eN(N:Nat)(cG:pO.bX)(x1:Int)(x2:Int)(bc:au)(bU:Int)(ca:Int):Option (Int):=
 cond (aT ca bU) (cond (aY ca (List.length bc)) (cond (aN ((List.getD bc ca.toNat a6).1) x1) (cond (aN (((List.getD bc ca.toNat a6).2).1) x2) (some ((((List.getD bc ca.toNat a6).2).2).1)) (cG x1 x2 bc bU (W .i64 (ca+1)))) (cG x1 x2 bc bU (W .i64 (ca+1)))) (none)) (some (0:Int))
def pO.l4(N:Nat):Nat→pO.bX
 |0,_,_,_,_,_=>none
 |n+1,x1,x2,bc,bU,ca=>pO.eN N (pO.l4 N n) x1 x2 bc bU ca
def pO.b(N:Nat)(fN:pO.bX)(a0:au)(a1:Int)(a2:Int):Option (Int):=
 (BU N a0).bind λr1=>cond (!r1) (some (0:Int)) (fN a1 a2 a0 (List.length a0:Int) (0:Int))
def pO(N:Nat)(a0:au)(a1:Int)(a2:Int):Option (Int):=pO.b N (pO.l4 N N) a0 a1 a2
def ac9(N:Nat)(a0:Int)(a1:br):Option (Bool):=
 (ID N a0).bind λr1=>(IG N r1 a1).bind λr2=>some (cZ 0 r2)
def F50(N:Nat)(a0:ae)(a1:an)(a2:c7):Option (Int):=
 (ly N a0 a1).bind λr1=>cond (!r1) (some (1:Int)) ((VH N a2).bind λr2=>cond (!r2) (some (1:Int)) ((oG N a1.2.1 a2.2.1).bind λr3=>cond (!r3.2) (some (3:Int)) ((Bb N a1.1 r3.1.2.1).bind λr4=>cond (!aN r4 1) (some (7:Int)) (cond (cZ (List.length a0.1:Int) a2.2.2.1) (some (3:Int)) ((oR N a1.2.2.2.1 a2.2.1).bind λr5=>(gw N a1.2.2.2.2.2.1 a2.2.1).bind λr6=>(gM N r6 a2).bind λr7=>(gO N a0 r5 r7 a2.2.2.1).bind λr8=>(ID N r3.1.2.2.2.1).bind λr9=>(IG N r8.1 r9).bind λkF=>cond (aT 0 kF) (some (9:Int)) ((qX N a0 r5 r7).bind λod=>cond (aY a2.2.2.1 (List.length a1.2.2.2.2.1)) ((Zy N a2 (List.getD a1.2.2.2.2.1 a2.2.2.1.toNat (0:Int))).bind λpn=>(OR N od.1 pn.1).bind λnU=>(pO N a1.2.2.1 (5:Int) a2.2.1).bind λsU=>(ac9 N sU nU.1).bind λtN=>cond (!tN) (some (10:Int)) (some (0:Int))) (none)))))))
abbrev oS.cO:=iP→(List (Int))→Int→Option (Bool)
def oS.fy(N:Nat)(dO:oS.cO)(x1:iP)(x9:List (Int))(bb:Int):Option (Bool):=
 cond (aT bb 2) (cond (aY bb 2) (cond (aT (List.getD x9 bb.toNat (0:Int)) (0:Int)) (some false) (cond (aT 24 (List.getD x9 bb.toNat (0:Int))) (some false) (dO x1 x9 (W .i64 (bb+1))))) (none)) (cond (!aN x1.1 x1.2.1) (cond (cZ 0 x1.2.2.1) (cond (aT x1.2.2.1 6) (cond (cZ 1 x1.2.2.2.1) (cond (cZ x1.2.2.2.1 1000000000) ((F85 N x1.2.2.2.2.1).bind λr4=>some r4) (some false)) (some false)) (some false)) (some false)) (some false))
def oS.l2(N:Nat):Nat→oS.cO
 |0,_,_,_=>none
 |n+1,x1,x9,bb=>oS.fy N (oS.l2 N n) x1 x9 bb
def oS.b(N:Nat)(gG:oS.cO)(a0:iP):Option (Bool):=
 gG a0 (List.set (List.set (List.replicate 2 (0:Int)) 0 a0.1) 1 a0.2.1) (0:Int)
def oS(N:Nat)(a0:iP):Option (Bool):=oS.b N (oS.l2 N N) a0
def aky(N:Nat)(a0:iP):Option (Bool):=
 (oS N a0).bind λr1=>some (!r1)
abbrev sY.cO:=bs→Unit→Int→Int→Option (Int)
def sY.fy(N:Nat)(dO:sY.cO)(x0:bs)(x1:Unit)(x7:Int)(x8:Int):Option (Int):=
 cond (aT x8 x7) (cond (aY x8 (List.length x0)) ((aky N (List.getD x0 x8.toNat gu)).bind λr2=>cond (r2) (some x8) (dO x0 () x7 (W .i64 (x8+1)))) (none)) (some (-1:Int))
def sY.l2(N:Nat):Nat→sY.cO
 |0,_,_,_,_=>none
 |n+1,x0,x1,x7,x8=>sY.fy N (sY.l2 N n) x0 x1 x7 x8
def sY.b(N:Nat)(gG:sY.cO)(a0:bs)(a1:Unit):Option (Int):=
 gG a0 () (List.length a0:Int) (0:Int)
def sY(N:Nat)(a0:bs)(a1:Unit):Option (Int):=sY.b N (sY.l2 N N) a0 a1
def acU(N:Nat)(a0:bs)(a1:Unit):Option (Bool):=
 (sY N a0 ()).bind λr1=>some (cZ 0 r1)
def Za(N:Nat)(a0:Int)(a1:br):Option tG:=
 cond (aN a0 0) (some ((2:Int),((0:Int),(a1,())))) (some ((5:Int),(a0,(a1,()))))
def Zb(N:Nat)(a0:iP)(a1:Int):Option (dE×(Int)):=
 (oS N a0).bind λr1=>cond (!r1) (some ([],(1:Int))) ((F85 N a1).bind λr2=>cond (!r2) (some ([],(1:Int))) (cond (aN a1 a0.2.2.2.2.1) (some ([],(0:Int))) ((IC N a0.2.2.2.1 (W .i64 (a1-a0.2.2.2.2.1))).bind λr4=>(Za N a0.1 r4).bind λr5=>(IC N a0.2.2.2.1 (W .i64 (a0.2.2.2.2.1-a1))).bind λr7=>(Za N a0.2.1 r7).bind λr8=>some ([r5,r8],(0:Int)))))
def acR(N:Nat)(a0:an):Option an:=
 (ox N a0.1).bind λr1=>(ox N a0.2.1).bind λr2=>(ox N a0.2.2.1).bind λr3=>(ox N a0.2.2.2.1).bind λr4=>(ox N a0.2.2.2.2.1).bind λr5=>(ox N a0.2.2.2.2.2.1).bind λr6=>some (r1,(r2,(r3,(r4,(r5,(r6,()))))))
abbrev gv.iu:=au→Int→eJ→Int→au→Int→Int→Option (Bool)
abbrev gv.cO:=au→Int→Option (Bool)
def gv.tX(N:Nat)(dO:gv.cO)(iv:gv.iu)(x0:au)(x3:Int)(x4:eJ)(x9:Int)(bc:au)(bU:Int)(ca:Int):Option (Bool):=
 cond (aT ca bU) (cond (aY ca (List.length bc)) (cond (aN (((List.getD bc ca.toNat a6).2).1) x3) ((ID N ((((List.getD bc ca.toNat a6).2).2).1)).bind λr3=>cond (small (List.length x4+List.length ([r3]))) (iv x0 x3 (x4++([r3])) x9 bc bU (W .i64 (ca+1))) (none)) (iv x0 x3 x4 x9 bc bU (W .i64 (ca+1)))) (none)) ((mZ N x4).bind λr7=>cond (!r7.2) (some false) ((Xo N r7.1).bind λr8=>cond (!aN r8 0) (some false) (dO x0 (W .i64 (x9+1)))))
def gv.l6(N:Nat)(dO:gv.cO):Nat→gv.iu
 |0,_,_,_,_,_,_,_=>none
 |n+1,x0,x3,x4,x9,bc,bU,ca=>gv.tX N dO (gv.l6 N dO n) x0 x3 x4 x9 bc bU ca
def gv.fy(N:Nat)(wv:gv.iu)(dO:gv.cO)(x0:au)(x9:Int):Option (Bool):=
 cond (aT x9 6) (wv x0 x9 ([]) x9 x0 (List.length x0:Int) (0:Int)) (some true)
def gv.l2(N:Nat):Nat→gv.cO
 |0,_,_=>none
 |n+1,x0,x9=>gv.fy N (gv.l6 N (gv.l2 N n) N) (gv.l2 N n) x0 x9
def gv.b(N:Nat)(gG:gv.cO)(a0:au):Option (Bool):=
 gG a0 (0:Int)
def gv(N:Nat)(a0:au):Option (Bool):=gv.b N (gv.l2 N N) a0
def acH(N:Nat)(a0:au):Option au:=
 cond (kd 0 (List.length a0:Int) (List.length a0:Int) (List.length a0:Int)) (some (List.drop (0:Int).toNat (List.take (List.length a0:Int).toNat a0))) (none)
abbrev cw.aqH:=au→au→cK→Int→au→Int→Int→Option (au×(Int))
abbrev cw.mS:=au→au→cK→Int→au→Int→Int→Option (au×(Int))
abbrev cw.aaB:=au→au→cK→eJ→au→Int→Int→au→Int→Int→Option (au×(Int))
abbrev cw.JC:=au→au→au→Int→Int→Option (au×(Int))
abbrev cw.gm:=au→au→au→Int→Int→Option (au×(Int))
abbrev cw.bX:=au→au→au→Int→Int→Option (au×(Int))
def cw.akq(N:Nat)(iW:cw.gm)(x1:au)(x8:au)(bb:cK)(aX:Int)(P4:au)(Ru:Int)(MO:Int):Option (au×(Int)):=
 cond (aN aX (List.length x8:Int)) ((kM N x8 aX ([(bb.1,(bb.2.1,((0:Int),())))])).bind λnU=>iW x1 nU P4 Ru (W .i64 (MO+1))) (cond (aY aX (List.length x8)) ((VG N bb.1 bb.2.1 (List.getD x8 aX.toNat a6)).bind λtN=>cond (!aN tN 0) ((kM N x8 aX ([(bb.1,(bb.2.1,((0:Int),())))])).bind λyQ=>iW x1 yQ P4 Ru (W .i64 (MO+1))) (iW x1 x8 P4 Ru (W .i64 (MO+1)))) (none))
def cw.j18(N:Nat)(iW:cw.gm)(x1:au)(x8:au)(bb:cK)(aX:Int)(P4:au)(Ru:Int)(MO:Int):Option (au×(Int)):=cw.akq N iW x1 x8 bb aX P4 Ru MO
def cw.wP(N:Nat)(aiM:cw.aqH)(iW:cw.gm)(ov:cw.mS)(x1:au)(x8:au)(bb:cK)(aX:Int)(P4:au)(Ru:Int)(MO:Int):Option (au×(Int)):=
 cond (aT aX (List.length x8:Int)) (cond (aY aX (List.length x8)) ((VG N bb.1 bb.2.1 (List.getD x8 aX.toNat a6)).bind λkF=>cond (aT 0 kF) (ov x1 x8 bb (W .i64 (aX+1)) P4 Ru MO) (aiM x1 x8 bb aX P4 Ru MO)) (none)) (aiM x1 x8 bb aX P4 Ru MO)
def cw.xK(N:Nat)(iW:cw.gm):Nat→cw.mS
 |0,_,_,_,_,_,_,_=>none
 |n+1,x1,x8,bb,aX,P4,Ru,MO=>cw.wP N (cw.j18 N iW) iW (cw.xK N iW n) x1 x8 bb aX P4 Ru MO
def cw.acI(N:Nat)(KE:cw.JC)(aaC:cw.aaB)(x1:au)(bc:au)(ca:cK)(dd:eJ)(BO:au)(Ew:Int)(s6:Int)(Mt:au)(W4:Int)(IZ:Int):Option (au×(Int)):=
 cond (aT IZ W4) (cond (aY IZ (List.length Mt)) (cond (aN ((List.getD Mt IZ.toNat a6).1) ca.1) (cond (aN (((List.getD Mt IZ.toNat a6).2).1) ca.2.1) ((ID N ((((List.getD Mt IZ.toNat a6).2).2).1)).bind λEv=>cond (small (List.length dd+List.length ([Ev]))) (aaC x1 bc ca (dd++([Ev])) BO Ew s6 Mt W4 (W .i64 (IZ+1))) (none)) (aaC x1 bc ca dd BO Ew s6 Mt W4 (W .i64 (IZ+1)))) (aaC x1 bc ca dd BO Ew s6 Mt W4 (W .i64 (IZ+1)))) (none)) ((mZ N dd).bind λr28=>(Ot N r28.1).bind λKF=>cond (!KF.2) (some (bq,(2:Int))) ((R2 N KF.1).bind λS4=>cond (!S4) (some (bq,(2:Int))) (cond (!aN KF.1 0) (cond (small (List.length bc+List.length ([(ca.1,(ca.2.1,(KF.1,())))]))) (KE x1 (bc++([(ca.1,(ca.2.1,(KF.1,())))])) BO Ew (W .i64 (s6+1))) (none)) (KE x1 bc BO Ew (W .i64 (s6+1))))))
def cw.l27(N:Nat)(KE:cw.JC):Nat→cw.aaB
 |0,_,_,_,_,_,_,_,_,_,_=>none
 |n+1,x1,bc,ca,dd,BO,Ew,s6,Mt,W4,IZ=>cw.acI N KE (cw.l27 N KE n) x1 bc ca dd BO Ew s6 Mt W4 IZ
def cw.acK(N:Nat)(aqI:cw.aaB)(KE:cw.JC)(x1:au)(bc:au)(BO:au)(Ew:Int)(s6:Int):Option (au×(Int)):=
 cond (aT s6 Ew) (cond (aY s6 (List.length BO)) ((ID N ((((List.getD BO s6.toNat a6).2).2).1)).bind λRs=>aqI x1 bc (List.getD BO s6.toNat a6) ([Rs]) BO Ew s6 x1 (List.length x1:Int) (0:Int)) (none)) ((acH N bc).bind λr34=>some (r34,(0:Int)))
def cw.l23(N:Nat):Nat→cw.JC
 |0,_,_,_,_,_=>none
 |n+1,x1,bc,BO,Ew,s6=>cw.acK N (cw.l27 N (cw.l23 N n) N) (cw.l23 N n) x1 bc BO Ew s6
def cw.mF(N:Nat)(HJ:cw.mS)(aqJ:cw.JC)(iW:cw.gm)(x1:au)(x8:au)(P4:au)(Ru:Int)(MO:Int):Option (au×(Int)):=
 cond (aT MO Ru) (cond (aY MO (List.length P4)) (HJ x1 x8 (List.getD P4 MO.toNat a6) (0:Int) P4 Ru MO) (none)) (cond (jA 0 (List.length x8:Int)) (aqJ x1 (List.replicate (0:Int).toNat a6) x8 (List.length x8:Int) (0:Int)) (none))
def cw.oi(N:Nat):Nat→cw.gm
 |0,_,_,_,_,_=>none
 |n+1,x1,x8,P4,Ru,MO=>cw.mF N (cw.xK N (cw.oi N n) N) (cw.l23 N N) (cw.oi N n) x1 x8 P4 Ru MO
def cw.eN(N:Nat)(vk:cw.gm)(cG:cw.bX)(x0:au)(x1:au)(zW:au)(KD:Int)(CS:Int):Option (au×(Int)):=
 cond (aT CS KD) (cond (aY CS (List.length zW)) ((YE N ((List.getD zW CS.toNat a6).1) (((List.getD zW CS.toNat a6).2).1)).bind λr3=>cond (!r3) (some (bq,(1:Int))) ((R2 N ((((List.getD zW CS.toNat a6).2).2).1)).bind λr4=>cond (!r4) (some (bq,(1:Int))) (cG x0 x1 zW KD (W .i64 (CS+1))))) (none)) ((gv N x1).bind λr6=>cond (!r6) (some (bq,(1:Int))) ((ox N x0).bind λr7=>vk x1 r7 x1 (List.length x1:Int) (0:Int)))
def cw.l4(N:Nat):Nat→cw.bX
 |0,_,_,_,_,_=>none
 |n+1,x0,x1,zW,KD,CS=>cw.eN N (cw.oi N N) (cw.l4 N n) x0 x1 zW KD CS
def cw.b(N:Nat)(fN:cw.bX)(a0:au)(a1:au):Option (au×(Int)):=
 (og N a0).bind λr1=>cond (!r1) (some (bq,(1:Int))) (cond (aT 400 (List.length a1:Int)) (some (bq,(1:Int))) (fN a0 a1 a1 (List.length a1:Int) (0:Int)))
def cw(N:Nat)(a0:au)(a1:au):Option (au×(Int)):=cw.b N (cw.l4 N N) a0 a1
def aks(N:Nat)(a0:au):Option au:=
 cond (kd 0 (List.length a0:Int) (List.length a0:Int) (List.length a0:Int)) (some (List.drop (0:Int).toNat (List.take (List.length a0:Int).toNat a0))) (none)
abbrev cy.aay:=dE→au→tG→Int→dE→Int→Int→Option (au×(Int))
abbrev cy.HL:=dE→au→tG→Int→dE→Int→Int→Option (au×(Int))
abbrev cy.HM:=dE→au→cK→eJ→au→Int→Int→dE→Int→Int→Option (au×(Int))
abbrev cy.JK:=dE→au→au→Int→Int→Option (au×(Int))
abbrev cy.mS:=dE→au→dE→Int→Int→Option (au×(Int))
abbrev cy.bO:=au→dE→eJ→dE→Int→Int→Option (au×(Int))
def cy.RT(N:Nat)(ov:cy.mS)(x1:dE)(aX:au)(bU:tG)(ca:Int)(wU:dE)(I0:Int)(wH:Int):Option (au×(Int)):=
 cond (aN ca (List.length aX:Int)) ((kM N aX ca ([(bU.1,(bU.2.1,((0:Int),())))])).bind λtN=>ov x1 tN wU I0 (W .i64 (wH+1))) (cond (aY ca (List.length aX)) ((RZ N bU.1 bU.2.1 (List.getD aX ca.toNat a6)).bind λwR=>cond (!aN wR 0) ((kM N aX ca ([(bU.1,(bU.2.1,((0:Int),())))])).bind λBW=>ov x1 BW wU I0 (W .i64 (wH+1))) (ov x1 aX wU I0 (W .i64 (wH+1)))) (none))
def cy.Xl(N:Nat)(ov:cy.mS)(x1:dE)(aX:au)(bU:tG)(ca:Int)(wU:dE)(I0:Int)(wH:Int):Option (au×(Int)):=cy.RT N ov x1 aX bU ca wU I0 wH
def cy.Sg(N:Nat)(KC:cy.aay)(ov:cy.mS)(aaE:cy.HL)(x1:dE)(aX:au)(bU:tG)(ca:Int)(wU:dE)(I0:Int)(wH:Int):Option (au×(Int)):=
 cond (aT ca (List.length aX:Int)) (cond (aY ca (List.length aX)) ((RZ N bU.1 bU.2.1 (List.getD aX ca.toNat a6)).bind λpn=>cond (aT 0 pn) (aaE x1 aX bU (W .i64 (ca+1)) wU I0 wH) (KC x1 aX bU ca wU I0 wH)) (none)) (KC x1 aX bU ca wU I0 wH)
def cy.V1(N:Nat)(ov:cy.mS):Nat→cy.HL
 |0,_,_,_,_,_,_,_=>none
 |n+1,x1,aX,bU,ca,wU,I0,wH=>cy.Sg N (cy.Xl N ov) ov (cy.V1 N ov n) x1 aX bU ca wU I0 wH
def cy.LC(N:Nat)(KG:cy.JK)(DV:cy.HM)(x1:dE)(dd:au)(ei:cK)(iE:eJ)(BP:au)(Ex:Int)(zO:Int)(I1:dE)(W5:Int)(HN:Int):Option (au×(Int)):=
 cond (aT HN W5) (cond (aY HN (List.length I1)) (cond (aN ((List.getD I1 HN.toNat ((0:Int),((0:Int),(cv,())))).1) ei.1) (cond (aN (((List.getD I1 HN.toNat ((0:Int),((0:Int),(cv,())))).2).1) ei.2.1) (cond (small (List.length iE+List.length ([(((List.getD I1 HN.toNat ((0:Int),((0:Int),(cv,())))).2).2).1]))) (DV x1 dd ei (iE++([(((List.getD I1 HN.toNat ((0:Int),((0:Int),(cv,())))).2).2).1])) BP Ex zO I1 W5 (W .i64 (HN+1))) (none)) (DV x1 dd ei iE BP Ex zO I1 W5 (W .i64 (HN+1)))) (DV x1 dd ei iE BP Ex zO I1 W5 (W .i64 (HN+1)))) (none)) ((mZ N iE).bind λKF=>(Ot N KF.1).bind λS4=>cond (!KF.2) (some (bq,(2:Int))) (cond (!S4.2) (some (bq,(2:Int))) (cond (!aN S4.1 0) (cond (small (List.length dd+List.length ([(ei.1,(ei.2.1,(S4.1,())))]))) (KG x1 (dd++([(ei.1,(ei.2.1,(S4.1,())))])) BP Ex (W .i64 (zO+1))) (none)) (KG x1 dd BP Ex (W .i64 (zO+1))))))
def cy.OI(N:Nat)(KG:cy.JK):Nat→cy.HM
 |0,_,_,_,_,_,_,_,_,_,_=>none
 |n+1,x1,dd,ei,iE,BP,Ex,zO,I1,W5,HN=>cy.LC N KG (cy.OI N KG n) x1 dd ei iE BP Ex zO I1 W5 HN
def cy.acO(N:Nat)(aaF:cy.HM)(KG:cy.JK)(x1:dE)(dd:au)(BP:au)(Ex:Int)(zO:Int):Option (au×(Int)):=
 cond (aT zO Ex) (cond (aY zO (List.length BP)) ((ID N ((((List.getD BP zO.toNat a6).2).2).1)).bind λEv=>aaF x1 dd (List.getD BP zO.toNat a6) ([Ev]) BP Ex zO x1 (List.length x1:Int) (0:Int)) (none)) ((aks N dd).bind λr34=>some (r34,(0:Int)))
def cy.l26(N:Nat):Nat→cy.JK
 |0,_,_,_,_,_=>none
 |n+1,x1,dd,BP,Ex,zO=>cy.acO N (cy.OI N (cy.l26 N n) N) (cy.l26 N n) x1 dd BP Ex zO
def cy.wP(N:Nat)(aaG:cy.HL)(aqK:cy.JK)(ov:cy.mS)(x1:dE)(aX:au)(wU:dE)(I0:Int)(wH:Int):Option (au×(Int)):=
 cond (aT wH I0) (cond (aY wH (List.length wU)) (aaG x1 aX (List.getD wU wH.toNat ((0:Int),((0:Int),(cv,())))) (0:Int) wU I0 wH) (none)) (cond (jA 0 (List.length aX:Int)) (aqK x1 (List.replicate (0:Int).toNat a6) aX (List.length aX:Int) (0:Int)) (none))
def cy.xK(N:Nat):Nat→cy.mS
 |0,_,_,_,_,_=>none
 |n+1,x1,aX,wU,I0,wH=>cy.wP N (cy.V1 N (cy.xK N n) N) (cy.l26 N N) (cy.xK N n) x1 aX wU I0 wH
def cy.eA(N:Nat)(HJ:cy.mS)(bQ:cy.bO)(x0:au)(x1:dE)(x6:eJ)(x36:dE)(x37:Int)(CQ:Int):Option (au×(Int)):=
 cond (aT CQ x37) (cond (aY CQ (List.length x36)) ((RX N ((List.getD x36 CQ.toNat ((0:Int),((0:Int),(cv,())))).1) (((List.getD x36 CQ.toNat ((0:Int),((0:Int),(cv,())))).2).1)).bind λr4=>cond (!r4) (some (bq,(1:Int))) (cond (small (List.length x6+List.length ([(((List.getD x36 CQ.toNat ((0:Int),((0:Int),(cv,())))).2).2).1]))) (bQ x0 x1 (x6++([(((List.getD x36 CQ.toNat ((0:Int),((0:Int),(cv,())))).2).2).1])) x36 x37 (W .i64 (CQ+1))) (none))) (none)) ((mZ N x6).bind λr7=>cond (!r7.2) (some (bq,(1:Int))) ((Xo N r7.1).bind λr8=>cond (!aN r8 0) (some (bq,(1:Int))) ((ox N x0).bind λr9=>HJ x1 r9 x1 (List.length x1:Int) (0:Int))))
def cy.l5(N:Nat):Nat→cy.bO
 |0,_,_,_,_,_,_=>none
 |n+1,x0,x1,x6,x36,x37,CQ=>cy.eA N (cy.xK N N) (cy.l5 N n) x0 x1 x6 x36 x37 CQ
def cy.b(N:Nat)(ff:cy.bO)(a0:au)(a1:dE):Option (au×(Int)):=
 (BU N a0).bind λr1=>cond (!r1) (some (bq,(1:Int))) (cond (aT 400 (List.length a1:Int)) (some (bq,(1:Int))) (cond (jA 0 (List.length a1:Int)) (ff a0 a1 (List.replicate (0:Int).toNat cv) a1 (List.length a1:Int) (0:Int)) (none)))
def cy(N:Nat)(a0:au)(a1:dE):Option (au×(Int)):=cy.b N (cy.l5 N N) a0 a1
def F65(N:Nat)(a0:an)(a1:au)(a2:dE):Option (an×(Int)):=
 (acR N a0).bind λr1=>(cw N a0.2.2.2.1 a1).bind λr2=>cond (!aN r2.2 0) (some ((cg,(cT,(bq,(bq,(de,(dk,())))))),r2.2)) ((cy N a0.2.2.1 a2).bind λr3=>cond (!aN r3.2 0) (some ((cg,(cT,(bq,(bq,(de,(dk,())))))),r3.2)) (some ((r1.1,(r1.2.1,(r3.1,(r2.1,r1.2.2.2.2)))),(0:Int))))
abbrev iR.fZ:=an→an→au→dE→bs→Int→Int→Option (an×(Int))
abbrev iR.bX:=bs→ae→an→an→bs→Int→Int→Option (an×(Int))
def iR.kt(N:Nat)(ia:iR.fZ)(x4:an)(x6:an)(bb:au)(aX:dE)(wU:bs)(I0:Int)(wH:Int):Option (an×(Int)):=
 cond (aT wH I0) (cond (aY wH (List.length wU)) (let Rt:Int:=W .i64 (0-(((((List.getD wU wH.toNat gu).2).2).2).1));cond (small (List.length bb+List.length ([((List.getD wU wH.toNat gu).1,((((List.getD wU wH.toNat gu).2).2).1,(((((List.getD wU wH.toNat gu).2).2).2).1,()))),(((List.getD wU wH.toNat gu).2).1,((((List.getD wU wH.toNat gu).2).2).1,(Rt,())))]))) (cond (aY ((((List.getD wU wH.toNat gu).2).2).1) (List.length x4.2.2.2.2.1)) ((Zb N (List.getD wU wH.toNat gu) (List.getD x4.2.2.2.2.1 ((((List.getD wU wH.toNat gu).2).2).1).toNat (0:Int))).bind λsU=>cond (small (List.length aX+List.length sU.1)) (ia x4 x6 (bb++([((List.getD wU wH.toNat gu).1,((((List.getD wU wH.toNat gu).2).2).1,(((((List.getD wU wH.toNat gu).2).2).2).1,()))),(((List.getD wU wH.toNat gu).2).1,((((List.getD wU wH.toNat gu).2).2).1,(Rt,())))])) (aX++sU.1) wU I0 (W .i64 (wH+1))) (none)) (none)) (none)) (none)) ((F65 N x4 bb aX).bind λwR=>some (wR.1,wR.2))
def iR.lx(N:Nat):Nat→iR.fZ
 |0,_,_,_,_,_,_,_=>none
 |n+1,x4,x6,bb,aX,wU,I0,wH=>iR.kt N (iR.lx N n) x4 x6 bb aX wU I0 wH
def iR.eN(N:Nat)(sS:iR.fZ)(cG:iR.bX)(x2:bs)(x3:ae)(x4:an)(x6:an)(zW:bs)(KD:Int)(CS:Int):Option (an×(Int)):=
 cond (aT CS KD) (cond (aY CS (List.length zW)) (cond (!aN ((List.getD zW CS.toNat gu).1) (0:Int)) ((F82 N x4 ((List.getD zW CS.toNat gu).1)).bind λr4=>cond (!r4) (some ((cg,(cT,(bq,(bq,(de,(dk,())))))),(3:Int))) (cond (!aN (((List.getD zW CS.toNat gu).2).1) (0:Int)) ((F82 N x4 (((List.getD zW CS.toNat gu).2).1)).bind λr5=>cond (!r5) (some ((cg,(cT,(bq,(bq,(de,(dk,())))))),(3:Int))) (cond (cZ (List.length x3.1:Int) ((((List.getD zW CS.toNat gu).2).2).1)) (some ((cg,(cT,(bq,(bq,(de,(dk,())))))),(3:Int))) (cG x2 x3 x4 x6 zW KD (W .i64 (CS+1))))) (cond (cZ (List.length x3.1:Int) ((((List.getD zW CS.toNat gu).2).2).1)) (some ((cg,(cT,(bq,(bq,(de,(dk,())))))),(3:Int))) (cG x2 x3 x4 x6 zW KD (W .i64 (CS+1)))))) (cond (!aN (((List.getD zW CS.toNat gu).2).1) (0:Int)) ((F82 N x4 (((List.getD zW CS.toNat gu).2).1)).bind λr8=>cond (!r8) (some ((cg,(cT,(bq,(bq,(de,(dk,())))))),(3:Int))) (cond (cZ (List.length x3.1:Int) ((((List.getD zW CS.toNat gu).2).2).1)) (some ((cg,(cT,(bq,(bq,(de,(dk,())))))),(3:Int))) (cG x2 x3 x4 x6 zW KD (W .i64 (CS+1))))) (cond (cZ (List.length x3.1:Int) ((((List.getD zW CS.toNat gu).2).2).1)) (some ((cg,(cT,(bq,(bq,(de,(dk,())))))),(3:Int))) (cG x2 x3 x4 x6 zW KD (W .i64 (CS+1)))))) (none)) (sS x4 x6 ([]) ([]) x2 (List.length x2:Int) (0:Int))
def iR.l4(N:Nat):Nat→iR.bX
 |0,_,_,_,_,_,_,_=>none
 |n+1,x2,x3,x4,x6,zW,KD,CS=>iR.eN N (iR.lx N N) (iR.l4 N n) x2 x3 x4 x6 zW KD CS
def iR.b(N:Nat)(fN:iR.bX)(a0:ae)(a1:an)(a2:bs):Option (an×(Int)):=
 (ly N a0 a1).bind λr1=>cond (!r1) (some ((cg,(cT,(bq,(bq,(de,(dk,())))))),(1:Int))) (cond (aT 200 (List.length a2:Int)) (some ((cg,(cT,(bq,(bq,(de,(dk,())))))),(1:Int))) ((acU N a2 ()).bind λr2=>cond (r2) (some ((cg,(cT,(bq,(bq,(de,(dk,())))))),(1:Int))) (fN a2 a0 a1 (cg,(cT,(bq,(bq,(de,(dk,())))))) a2 (List.length a2:Int) (0:Int))))
def iR(N:Nat)(a0:ae)(a1:an)(a2:bs):Option (an×(Int)):=iR.b N (iR.l4 N N) a0 a1 a2
abbrev Ic.aqL:=Int→ae→an→bT→an→bT→iP→Option (an×bT×(Int))
def Ic.akH(N:Nat)(x4:Int)(x6:ae)(x7:an)(x8:bT)(bc:an)(bU:bT)(ei:iP):Option (an×bT×(Int)):=
 (iR N x6 x7 ([ei])).bind λr8=>cond (!aN r8.2 0) (some ((cg,(cT,(bq,(bq,(de,(dk,())))))),aW,r8.2)) (some (r8.1,(x8.1,(x8.2.1,(x8.2.2.1,((W .i64 (x8.2.2.2.1-x4)),x8.2.2.2.2)))),(0:Int)))
def Ic.j12(N:Nat)(x4:Int)(x6:ae)(x7:an)(x8:bT)(bc:an)(bU:bT)(ei:iP):Option (an×bT×(Int)):=Ic.akH N x4 x6 x7 x8 bc bU ei
def Ic.b(N:Nat)(aiP:Ic.aqL)(a0:ae)(a1:an)(a2:bT)(a3:Int)(a4:Int)(a5:Int):Option (an×bT×(Int)):=
 (ly N a0 a1).bind λr1=>cond (!r1) (some ((cg,(cT,(bq,(bq,(de,(dk,())))))),aW,(1:Int))) ((F48 N a2).bind λr2=>cond (!r2) (some ((cg,(cT,(bq,(bq,(de,(dk,())))))),aW,(1:Int))) ((SA N a4).bind λr3=>cond (!r3) (some ((cg,(cT,(bq,(bq,(de,(dk,())))))),aW,(1:Int))) ((F85 N a5).bind λr4=>cond (!r4) (some ((cg,(cT,(bq,(bq,(de,(dk,())))))),aW,(1:Int))) (cond (aT a2.2.2.2.1 a4) (some ((cg,(cT,(bq,(bq,(de,(dk,())))))),aW,(9:Int))) ((F50 N a0 a1 (a2.1,(a3,(a2.2.1,((W .i64 ((3:Int)-a2.2.2.1)),(a4,(a5,()))))))).bind λr6=>cond (!aN r6 0) (some ((cg,(cT,(bq,(bq,(de,(dk,())))))),aW,r6)) (cond (aN a2.2.2.1 1) (aiP a4 a0 a1 a2 (cg,(cT,(bq,(bq,(de,(dk,())))))) aW ((0:Int),(a3,(a2.2.1,(a4,(a5,())))))) (aiP a4 a0 a1 a2 (cg,(cT,(bq,(bq,(de,(dk,())))))) aW (a3,((0:Int),(a2.2.1,(a4,(a5,()))))))))))))
def Ic(N:Nat)(a0:ae)(a1:an)(a2:bT)(a3:Int)(a4:Int)(a5:Int):Option (an×bT×(Int)):=Ic.b N (Ic.j12 N) a0 a1 a2 a3 a4 a5
abbrev zU.cO:=au→Int→Option (Bool)
def zU.fy(N:Nat)(dO:zU.cO)(x0:au)(x3:Int):Option (Bool):=
 cond (aT x3 (List.length x0:Int)) (cond (aY x3 (List.length x0)) (cond (aT ((List.getD x0 x3.toNat a6).1) (0:Int)) (some false) (cond (aT 24 ((List.getD x0 x3.toNat a6).1)) (some false) (cond (aT (((List.getD x0 x3.toNat a6).2).1) (0:Int)) (some false) (cond (cZ 6 (((List.getD x0 x3.toNat a6).2).1)) (some false) (cond (aN ((((List.getD x0 x3.toNat a6).2).2).1) (0:Int)) (some false) (cond (aN ((((List.getD x0 x3.toNat a6).2).2).1) (-9223372036854775808:Int)) (some false) (cond (aT 0 x3) (let v2:Int:=W .i64 (x3-1);cond (aY v2 (List.length x0)) (cond (aT ((List.getD x0 x3.toNat a6).1) ((List.getD x0 v2.toNat a6).1)) (some false) (let v3:Int:=W .i64 (x3-1);cond (aY v3 (List.length x0)) (cond (aN ((List.getD x0 x3.toNat a6).1) ((List.getD x0 v3.toNat a6).1)) (let v4:Int:=W .i64 (x3-1);cond (aY v4 (List.length x0)) (cond (cZ (((List.getD x0 x3.toNat a6).2).1) (((List.getD x0 v4.toNat a6).2).1)) (some false) (dO x0 (W .i64 (x3+1)))) (none)) (dO x0 (W .i64 (x3+1)))) (none))) (none)) (dO x0 (W .i64 (x3+1)))))))))) (none)) (some true)
def zU.l2(N:Nat):Nat→zU.cO
 |0,_,_=>none
 |n+1,x0,x3=>zU.fy N (zU.l2 N n) x0 x3
def zU.b(N:Nat)(gG:zU.cO)(a0:au):Option (Bool):=
 gG a0 (0:Int)
def zU(N:Nat)(a0:au):Option (Bool):=zU.b N (zU.l2 N N) a0
abbrev BV.bX:=au→Int→Int→Int→Option (Int)
def BV.eN(N:Nat)(cG:BV.bX)(x0:au)(x1:Int)(x2:Int)(x7:Int):Option (Int):=
 cond (aT x7 (List.length x0:Int)) (cond (aY x7 (List.length x0)) (cond (aN ((List.getD x0 x7.toNat a6).1) x1) (cond (aY x7 (List.length x0)) (cond (aN (((List.getD x0 x7.toNat a6).2).1) x2) (cond (aY x7 (List.length x0)) (some ((((List.getD x0 x7.toNat a6).2).2).1)) (none)) (cG x0 x1 x2 (W .i64 (x7+1)))) (none)) (cG x0 x1 x2 (W .i64 (x7+1)))) (none)) (some (0:Int))
def BV.l4(N:Nat):Nat→BV.bX
 |0,_,_,_,_=>none
 |n+1,x0,x1,x2,x7=>BV.eN N (BV.l4 N n) x0 x1 x2 x7
def BV.b(N:Nat)(fN:BV.bX)(a0:au)(a1:Int)(a2:Int):Option (Int):=
 (zU N a0).bind λr1=>cond (!r1) (some (0:Int)) (fN a0 a1 a2 (0:Int))
def BV(N:Nat)(a0:au)(a1:Int)(a2:Int):Option (Int):=BV.b N (BV.l4 N N) a0 a1 a2
def RY(N:Nat)(a0:Int)(a1:Int):Option (Bool):=
 cond (aN a0 1) (some (aN a1 0)) (cond (aN a0 2) (some (aN a1 0)) (cond (aN a0 3) (some (aN a1 0)) (cond (aN a0 4) (some (aN a1 0)) (cond (aN a0 5) (cond (cZ 1 a1) (some (cZ a1 24)) (some false)) (cond (aN a0 6) (cond (cZ 1 a1) (some (cZ a1 12)) (some false)) (cond (aN a0 7) (cond (cZ 1 a1) (some (cZ a1 12)) (some false)) (some false)))))))
abbrev Cj.cO:=au→Int→Option (Bool)
def Cj.fy(N:Nat)(dO:Cj.cO)(x0:au)(x3:Int):Option (Bool):=
 cond (aT x3 (List.length x0:Int)) (cond (aY x3 (List.length x0)) (cond (aY x3 (List.length x0)) ((RY N ((List.getD x0 x3.toNat a6).1) (((List.getD x0 x3.toNat a6).2).1)).bind λr2=>cond (!r2) (some false) (cond (aY x3 (List.length x0)) (cond (aN ((((List.getD x0 x3.toNat a6).2).2).1) (0:Int)) (some false) (cond (aT 0 x3) (cond (aY x3 (List.length x0)) (let v3:Int:=W .i64 (x3-1);cond (aY v3 (List.length x0)) (cond (aT ((List.getD x0 x3.toNat a6).1) ((List.getD x0 v3.toNat a6).1)) (some false) (cond (aY x3 (List.length x0)) (let v4:Int:=W .i64 (x3-1);cond (aY v4 (List.length x0)) (cond (aN ((List.getD x0 x3.toNat a6).1) ((List.getD x0 v4.toNat a6).1)) (cond (aY x3 (List.length x0)) (let v5:Int:=W .i64 (x3-1);cond (aY v5 (List.length x0)) (cond (cZ (((List.getD x0 x3.toNat a6).2).1) (((List.getD x0 v5.toNat a6).2).1)) (some false) (dO x0 (W .i64 (x3+1)))) (none)) (none)) (dO x0 (W .i64 (x3+1)))) (none)) (none))) (none)) (none)) (dO x0 (W .i64 (x3+1))))) (none))) (none)) (none)) (some true)
def Cj.l2(N:Nat):Nat→Cj.cO
 |0,_,_=>none
 |n+1,x0,x3=>Cj.fy N (Cj.l2 N n) x0 x3
def Cj.b(N:Nat)(gG:Cj.cO)(a0:au):Option (Bool):=
 gG a0 (0:Int)
def Cj(N:Nat)(a0:au):Option (Bool):=Cj.b N (Cj.l2 N N) a0
abbrev wF.bX:=au→Int→Int→Int→Option (Int)
def wF.eN(N:Nat)(cG:wF.bX)(x0:au)(x1:Int)(x2:Int)(x7:Int):Option (Int):=
 cond (aT x7 (List.length x0:Int)) (cond (aY x7 (List.length x0)) (cond (aN ((List.getD x0 x7.toNat a6).1) x1) (cond (aY x7 (List.length x0)) (cond (aN (((List.getD x0 x7.toNat a6).2).1) x2) (cond (aY x7 (List.length x0)) (some ((((List.getD x0 x7.toNat a6).2).2).1)) (none)) (cG x0 x1 x2 (W .i64 (x7+1)))) (none)) (cG x0 x1 x2 (W .i64 (x7+1)))) (none)) (some (0:Int))
def wF.l4(N:Nat):Nat→wF.bX
 |0,_,_,_,_=>none
 |n+1,x0,x1,x2,x7=>wF.eN N (wF.l4 N n) x0 x1 x2 x7
def wF.b(N:Nat)(fN:wF.bX)(a0:au)(a1:Int)(a2:Int):Option (Int):=
 (Cj N a0).bind λr1=>cond (!r1) (some (0:Int)) (fN a0 a1 a2 (0:Int))
def wF(N:Nat)(a0:au)(a1:Int)(a2:Int):Option (Int):=wF.b N (wF.l4 N N) a0 a1 a2
def F38(N:Nat):Option (Bool):=
 (F99 N).bind λr1=>(Bz N r1.1 r1.2).bind λr2=>(vn N r1.1 r1.2 (4:Int)).bind λr3=>cond (!aN r2.2 0) (some false) (cond (!aN r3.2 0) (some false) (cond (!aN (List.length r2.1:Int) 4) (some false) (cond (!aN (List.length r3.1:Int) 1) (some false) (cond (aY 0 (List.length r3.1)) ((Ic N r1.1 r1.2 (List.getD r3.1 (0:Int).toNat aW) (1:Int) (2:Int) (99:Int)).bind λr4=>cond (aY 0 (List.length r3.1)) ((Ic N r1.1 r1.2 (List.getD r3.1 (0:Int).toNat aW) (1:Int) (7:Int) (99:Int)).bind λr5=>cond (aY 0 (List.length r2.1)) (cond (aN (((List.getD r2.1 (0:Int).toNat cv).2).1) (640:Int)) (cond (aY 0 (List.length r3.1)) (cond (p8 (.pair (.int .i64) (.pair (.int .i64) (.pair (.int .i64) (.pair (.int .i64) .unit)))) (List.getD r3.1 (0:Int).toNat aW) ((4:Int),((0:Int),((2:Int),((6:Int),()))))) (cond (aN r4.2.2 0) (cond (aN r4.2.1.2.2.2.1 4) ((BV N r4.1.2.2.2.1 (0:Int) (0:Int)).bind λr6=>cond (aN r6 3) ((wF N r4.1.2.2.1 (2:Int) (0:Int)).bind λr7=>cond (aN r7 (-2)) (cond (aN r5.2.2 9) (cond (aY 0 (List.length r3.1)) ((F48 N (List.getD r3.1 (0:Int).toNat aW)).bind λr8=>some r8) (none)) (some false)) (some false)) (some false)) (some false)) (some false)) (some false)) (none)) (some false)) (none)) (none)) (none)))))
def F13(N:Nat)(a0:List (Int)):Option bf:=
 some (a0,((0:Int),()))
def F42(N:Nat)(a0:bf):Option ((Int)×bf):=
 cond (aT a0.2.1 (List.length a0.1:Int)) (cond (aY a0.2.1 (List.length a0.1)) (some (List.getD a0.1 a0.2.1.toNat (0:Int),(a0.1,((W .i64 (a0.2.1+1)),a0.2.2)))) (none)) (some ((0:Int),(a0.1,((W .i64 (a0.2.1+1)),a0.2.2))))
def uh(N:Nat)(a0:bf)(a1:Int):Option ((Int)×bf):=
 (F42 N a0).bind λr1=>let v2:Int:=W .u64 a1;cond (aN v2 0) (none) (some ((W .i64 (rem r1.1 v2)),r1.2))
def F54(N:Nat)(a0:bf)(a1:Int):Option ((Bool)×bf):=
 (uh N a0 a1).bind λr1=>some (aN r1.1 (W .i64 (a1-1)),r1.2)
def MM(N:Nat)(a0:bf):Option ((Int)×bf):=
 (F42 N a0).bind λr1=>cond (aN 8 0) (none) (let v2:Int:=rem r1.1 8;cond (aN v2 0) (cond (aT 1 0) (none) (some ((W .i64 (shr .u64 r1.1 1)),r1.2))) (cond (aN v2 1) (cond (aT 3 0) (none) (cond (aN 1000000000000 0) (none) (some ((W .i64 (rem (shr .u64 r1.1 3) 1000000000000)),r1.2)))) (cond (aN v2 2) (cond (aT 3 0) (none) (cond (aN 2 0) (none) (some ((W .i64 (rem (shr .u64 r1.1 3) 2)),r1.2)))) (cond (aT 3 0) (none) (cond (aN 5000 0) (none) (some ((W .i64 (rem (shr .u64 r1.1 3) 5000)),r1.2)))))))
abbrev vP.aaH:=bf→ae→ae→aO→Int→bT→Option (ae×bf)
abbrev vP.eh:=bf→ae→ae→aO→Int→Option (ae×bf)
def vP.YG(N:Nat)(dA:vP.eh)(x0:bf)(x2:ae)(x3:ae)(W6:aO)(x4:Int)(x5:bT):Option (ae×bf):=
 (F54 N x0 (12:Int)).bind λsU=>cond (sU.1) ((MM N sU.2).bind λtN=>cond (aN 1000000001 0) (none) (let v16:Int:=rem tN.1 1000000001;(MM N tN.2).bind λwR=>cond (aN 1000000001 0) (none) (let v18:Int:=rem wR.1 1000000001;cond (small (List.length W6+List.length ([(x5.1,(x5.2.1,(v16,(v18,x5.2.2.2.2))))]))) (dA wR.2 x2 (cT,x3.2) (W6++([(x5.1,(x5.2.1,(v16,(v18,x5.2.2.2.2))))])) (W .i64 (x4-1))) (none)))) (cond (small (List.length W6+List.length ([x5]))) (dA sU.2 x2 (cT,x3.2) (W6++([x5])) (W .i64 (x4-1))) (none))
def vP.j8(N:Nat)(dA:vP.eh)(x0:bf)(x2:ae)(x3:ae)(W6:aO)(x4:Int)(x5:bT):Option (ae×bf):=vP.YG N dA x0 x2 x3 W6 x4 x5
def vP.ob(N:Nat)(P5:vP.aaH)(dA:vP.eh)(x0:bf)(x2:ae)(x3:ae)(W6:aO)(x4:Int):Option (ae×bf):=
 cond (aT 0 x4) ((uh N x0 (3:Int)).bind λr4=>(uh N r4.2 (300:Int)).bind λr5=>(uh N r5.2 (12:Int)).bind λr7=>(uh N r7.2 (6:Int)).bind λr8=>(F54 N r8.2 (12:Int)).bind λr9=>cond (r9.1) ((MM N r9.2).bind λkF=>cond (aN 1000000000000 0) (none) (P5 kF.2 x2 x3 W6 x4 (r4.1,((W .i64 ((1:Int)+(rem kF.1 1000000000000))),(r7.1,(r8.1,())))))) (P5 r9.2 x2 x3 W6 x4 (r4.1,((W .i64 ((1:Int)+r5.1)),(r7.1,(r8.1,())))))) ((uh N x0 (300:Int)).bind λEv=>(uh N Ev.2 (5:Int)).bind λI2=>(uh N I2.2 (3:Int)).bind λKH=>(uh N KH.2 (3:Int)).bind λBX=>(uh N BX.2 (20:Int)).bind λW7=>let v28:Int:=W .i64 ((1:Int)+W7.1);(uh N W7.2 (100:Int)).bind λKF=>(F54 N KF.2 (15:Int)).bind λS4=>cond (S4.1) ((MM N S4.2).bind λUN=>some ((W6,(UN.1,(I2.1,(KH.1,(BX.1,(v28,(KF.1,x3.2.2.2.2.2.2.2))))))),UN.2)) (some ((W6,(Ev.1,(I2.1,(KH.1,(BX.1,(v28,(KF.1,x3.2.2.2.2.2.2.2))))))),S4.2)))
def vP.l3(N:Nat):Nat→vP.eh
 |0,_,_,_,_,_=>none
 |n+1,x0,x2,x3,W6,x4=>vP.ob N (vP.j8 N (vP.l3 N n)) (vP.l3 N n) x0 x2 x3 W6 x4
def vP.b(N:Nat)(o4:vP.eh)(a0:bf):Option (ae×bf):=
 (uh N a0 (4:Int)).bind λr1=>o4 r1.2 (cT,eT) (cT,eT) cT (W .i64 ((1:Int)+r1.1))
def vP(N:Nat)(a0:bf):Option (ae×bf):=vP.b N (vP.l3 N N) a0
abbrev fM.gm:=bf→jF→Int→Option (jF×bf)
abbrev fM.mI:=bf→jF→Int→Option (jF×bf)
abbrev fM.eh:=bf→jF→Int→Option (jF×bf)
def fM.mF(N:Nat)(iW:fM.gm)(x0:bf)(x5:jF)(x8:Int):Option (jF×bf):=
 cond (cZ x8 7) ((uh N x0 (3000:Int)).bind λtN=>let v16:Int:=W .i64 ((200:Int)+tN.1);(uh N tN.2 (200:Int)).bind λwR=>let v18:Int:=W .i64 ((20:Int)+wR.1);cond (small (List.length x5+List.length ([((3:Int),((0:Int),(x8,((0:Int),((0:Int),((0:Int),(v16,((0:Int),())))))))),((6:Int),((0:Int),(x8,((0:Int),((0:Int),((0:Int),(v18,((0:Int),()))))))))]))) (iW wR.2 (x5++([((3:Int),((0:Int),(x8,((0:Int),((0:Int),((0:Int),(v16,((0:Int),())))))))),((6:Int),((0:Int),(x8,((0:Int),((0:Int),((0:Int),(v18,((0:Int),()))))))))])) (W .i64 (x8+1))) (none)) (some (x5,x0))
def fM.oi(N:Nat):Nat→fM.gm
 |0,_,_,_=>none
 |n+1,x0,x5,x8=>fM.mF N (fM.oi N n) x0 x5 x8
def fM.xG(N:Nat)(vk:fM.gm)(qz:fM.mI)(x0:bf)(x5:jF)(x7:Int):Option (jF×bf):=
 cond (cZ x7 7) ((uh N x0 (2:Int)).bind λkF=>let v11:Int:=W .i64 ((1:Int)+kF.1);cond (small (List.length x5+List.length ([((2:Int),(v11,(x7,((0:Int),((2:Int),a6)))))]))) (qz kF.2 (x5++([((2:Int),(v11,(x7,((0:Int),((2:Int),a6)))))])) (W .i64 (x7+1))) (none)) (vk x0 x5 (1:Int))
def fM.l9(N:Nat):Nat→fM.mI
 |0,_,_,_=>none
 |n+1,x0,x5,x7=>fM.xG N (fM.oi N N) (fM.l9 N n) x0 x5 x7
def fM.ob(N:Nat)(zN:fM.mI)(dA:fM.eh)(x0:bf)(x5:jF)(x6:Int):Option (jF×bf):=
 cond (cZ x6 4) (cond (small (List.length x5+List.length ([((1:Int),(x6,eT)),((2:Int),(x6,(x6,((0:Int),((1:Int),a6)))))]))) (let v2:List ((Int)×((Int)×((Int)×((Int)×((Int)×((Int)×((Int)×((Int)×(Unit))))))))):=x5++([((1:Int),(x6,eT)),((2:Int),(x6,(x6,((0:Int),((1:Int),a6)))))]);(F54 N x0 (5:Int)).bind λr3=>cond (!r3.1) ((uh N r3.2 (400:Int)).bind λr4=>let v5:Int:=W .i64 ((1:Int)+r4.1);cond (small (List.length v2+List.length ([((5:Int),(x6,((0:Int),((0:Int),((0:Int),((0:Int),(v5,((0:Int),()))))))))]))) (dA r4.2 (v2++([((5:Int),(x6,((0:Int),((0:Int),((0:Int),((0:Int),(v5,((0:Int),()))))))))])) (W .i64 (x6+1))) (none)) (dA r3.2 v2 (W .i64 (x6+1)))) (none)) (zN x0 x5 (5:Int))
def fM.l3(N:Nat):Nat→fM.eh
 |0,_,_,_=>none
 |n+1,x0,x5,x6=>fM.ob N (fM.l9 N N) (fM.l3 N n) x0 x5 x6
def fM.b(N:Nat)(o4:fM.eh)(a0:bf)(a1:ae):Option (jF×bf):=
 o4 a0 ([]) (1:Int)
def fM(N:Nat)(a0:bf)(a1:ae):Option (jF×bf):=fM.b N (fM.l3 N N) a0 a1
def Wv(N:Nat)(a0:bf)(a1:ae)(a2:Int):Option (g9×bf):=
 cond (aY a2 (List.length a1.1)) ((uh N a0 (61:Int)).bind λr1=>(F54 N r1.2 (20:Int)).bind λr6=>cond (r6.1) ((MM N r6.2).bind λr7=>cond (aN 1000000000000 0) (none) (some (((9:Int),((0:Int),((0:Int),(a2,((0:Int),((0:Int),((0:Int),((W .i64 ((1:Int)+(rem r7.1 1000000000000))),())))))))),r7.2))) (some (((9:Int),((0:Int),((0:Int),(a2,((0:Int),((0:Int),((0:Int),((mx 1 (mn 1000000000000 (W .i64 ((W .i64 ((((List.getD a1.1 a2.toNat aW).2).1)+r1.1))-30)))),())))))))),r6.2))) (none)
def ZH(N:Nat)(a0:bf)(a1:ae):Option (g9×bf):=
 (uh N a0 (List.length a1.1:Int)).bind λr1=>(uh N r1.2 (7:Int)).bind λr2=>let v3:Int:=W .i64 ((1:Int)+r2.1);(uh N r2.2 (2:Int)).bind λr4=>let v5:Int:=W .i64 ((1:Int)+r4.1);(uh N r4.2 (30:Int)).bind λr6=>cond (aY r1.1 (List.length a1.1)) ((uh N r6.2 (21:Int)).bind λr8=>(F54 N r8.2 (30:Int)).bind λnU=>cond (nU.1) ((MM N nU.2).bind λsU=>cond (aN 1000000000 0) (none) ((MM N sU.2).bind λwR=>cond (aN 1000000000000 0) (none) (some (((7:Int),((0:Int),(v3,(r1.1,(v5,((0:Int),((W .i64 ((1:Int)+(rem sU.1 1000000000))),((W .i64 ((1:Int)+(rem wR.1 1000000000000))),())))))))),wR.2)))) (some (((7:Int),((0:Int),(v3,(r1.1,(v5,((0:Int),((W .i64 ((1:Int)+r6.1)),((mx 1 (mn 1000000000000 (W .i64 ((W .i64 ((((List.getD a1.1 r1.1.toNat aW).2).1)+r8.1))-10)))),())))))))),nU.2))) (none)
def ZI(N:Nat)(a0:bf)(a1:ae):Option (g9×bf):=
 (uh N a0 (4:Int)).bind λr1=>let v2:Int:=W .i64 ((1:Int)+r1.1);(uh N r1.2 (7:Int)).bind λr3=>let v4:Int:=W .i64 ((1:Int)+r3.1);(uh N r3.2 (List.length a1.1:Int)).bind λr5=>(uh N r5.2 (36:Int)).bind λr6=>let v7:Int:=W .i64 ((1:Int)+r6.1);cond (aN v7 1) (some ((v7,(v2,eT)),r6.2)) (cond (aN v7 11) (some ((v7,(v2,eT)),r6.2)) (cond (aN v7 12) (some ((v7,(v2,eT)),r6.2)) (cond (aN v7 13) (some ((v7,(v2,eT)),r6.2)) (cond (aN v7 2) ((uh N r6.2 (2:Int)).bind λr8=>some ((v7,(v2,(v4,((0:Int),((W .i64 ((1:Int)+r8.1)),a6))))),r8.2)) (cond (aN v7 3) ((MM N r6.2).bind λkF=>some ((v7,((0:Int),(v4,((0:Int),((0:Int),((0:Int),((mx kF.1 1),((0:Int),())))))))),kF.2)) (cond (aN v7 4) ((MM N r6.2).bind λpn=>some ((v7,((0:Int),(v4,((0:Int),((0:Int),((0:Int),((mx pn.1 1),((0:Int),())))))))),pn.2)) (cond (aN v7 5) ((MM N r6.2).bind λsU=>some ((v7,(v2,((0:Int),((0:Int),((0:Int),((0:Int),((mx sU.1 1),((0:Int),())))))))),sU.2)) (cond (aN v7 22) ((MM N r6.2).bind λyQ=>some ((v7,(v2,((0:Int),((0:Int),((0:Int),((0:Int),((mx yQ.1 1),((0:Int),())))))))),yQ.2)) (cond (aN v7 6) ((MM N r6.2).bind λBW=>cond (aN 1000000000001 0) (none) (some ((v7,((0:Int),(v4,((0:Int),((0:Int),((0:Int),((rem BW.1 1000000000001),((0:Int),())))))))),BW.2))) (cond (aN v7 8) ((uh N r6.2 (40:Int)).bind λMu=>some ((v7,((0:Int),(v4,((0:Int),((0:Int),((W .i64 ((1:Int)+Mu.1)),cv)))))),Mu.2)) (cond (aN v7 9) ((Wv N r6.2 a1 r5.1).bind λMP=>some (MP.1,MP.2)) (cond (aN v7 10) ((uh N r6.2 (3:Int)).bind λEv=>some ((v7,((0:Int),((0:Int),((0:Int),((0:Int),((0:Int),((W .i64 ((1:Int)+Ev.1)),((0:Int),())))))))),Ev.2)) (cond (aN v7 14) (some ((v7,(v2,(v4,gu))),r6.2)) (cond (aN v7 15) (some ((v7,zz7),r6.2)) (cond (aN v7 16) (some ((v7,zz7),r6.2)) (cond (aN v7 18) (some ((v7,zz7),r6.2)) (cond (aN v7 20) (some ((v7,zz7),r6.2)) (cond (aN v7 21) (some ((v7,zz7),r6.2)) (cond (aN v7 17) ((uh N r6.2 (60:Int)).bind λKH=>(uh N KH.2 (20:Int)).bind λW7=>cond (aY r5.1 (List.length a1.1)) (some ((v7,((0:Int),(v4,((0:Int),((0:Int),((W .i64 ((1:Int)+KH.1)),((W .i64 ((1:Int)+W7.1)),(((List.getD a1.1 r5.1.toNat aW).2).1,())))))))),W7.2)) (none)) (cond (aN v7 19) ((uh N r6.2 (60:Int)).bind λKF=>(uh N KF.2 (80:Int)).bind λUN=>some ((v7,(v2,((0:Int),((0:Int),((0:Int),((W .i64 ((1:Int)+KF.1)),((0:Int),((W .i64 (UN.1-60)),())))))))),UN.2)) ((ZH N r6.2 a1).bind λr33=>some (r33.1,r33.2))))))))))))))))))))))
abbrev E4.eh:=bf→ae→jF→Int→Option (jF×bf)
def E4.ob(N:Nat)(dA:E4.eh)(x0:bf)(x4:ae)(x7:jF)(x8:Int):Option (jF×bf):=
 cond (aT 0 x8) ((uh N x0 (8:Int)).bind λr5=>cond (aN r5.1 0) ((ZI N r5.2 x4).bind λr6=>cond (small (List.length x7+List.length ([r6.1]))) (dA r6.2 x4 (x7++([r6.1])) (W .i64 (x8-1))) (none)) (cond (aN r5.1 1) ((uh N r5.2 (List.length x4.1:Int)).bind λr9=>(Wv N r9.2 x4 r9.1).bind λkF=>cond (small (List.length x7+List.length ([kF.1]))) (dA kF.2 x4 (x7++([kF.1])) (W .i64 (x8-1))) (none)) ((ZH N r5.2 x4).bind λnU=>cond (small (List.length x7+List.length ([nU.1]))) (dA nU.2 x4 (x7++([nU.1])) (W .i64 (x8-1))) (none)))) (some (x7,x0))
def E4.l3(N:Nat):Nat→E4.eh
 |0,_,_,_,_=>none
 |n+1,x0,x4,x7,x8=>E4.ob N (E4.l3 N n) x0 x4 x7 x8
def E4.b(N:Nat)(o4:E4.eh)(a0:bf)(a1:ae)(a2:Int):Option (jF×bf):=
 (fM N a0 a1).bind λr1=>(uh N r1.2 (W .i64 (a2+1))).bind λr3=>o4 r3.2 a1 r1.1 r3.1
def E4(N:Nat)(a0:bf)(a1:ae)(a2:Int):Option (jF×bf):=E4.b N (E4.l3 N N) a0 a1 a2
abbrev Es.eh:=bf→ae→jF→Int→Option (jF×bf)
def Es.ob(N:Nat)(dA:Es.eh)(x0:bf)(x3:ae)(x5:jF)(x6:Int):Option (jF×bf):=
 cond (aT 0 x6) ((F54 N x0 (2:Int)).bind λr3=>cond (r3.1) ((uh N r3.2 (List.length x3.1:Int)).bind λr4=>(Wv N r4.2 x3 r4.1).bind λr5=>cond (small (List.length x5+List.length ([r5.1]))) (dA r5.2 x3 (x5++([r5.1])) (W .i64 (x6-1))) (none)) ((ZI N r3.2 x3).bind λr8=>cond (small (List.length x5+List.length ([r8.1]))) (dA r8.2 x3 (x5++([r8.1])) (W .i64 (x6-1))) (none))) (some (x5,x0))
def Es.l3(N:Nat):Nat→Es.eh
 |0,_,_,_,_=>none
 |n+1,x0,x3,x5,x6=>Es.ob N (Es.l3 N n) x0 x3 x5 x6
def Es.b(N:Nat)(o4:Es.eh)(a0:bf)(a1:ae):Option (jF×bf):=
 (uh N a0 (3:Int)).bind λr1=>o4 r1.2 a1 ([]) r1.1
def Es(N:Nat)(a0:bf)(a1:ae):Option (jF×bf):=Es.b N (Es.l3 N N) a0 a1
def IE(N:Nat)(a0:Int)(a1:Int)(a2:Int):Option (Bool):=
 cond (cZ a1 a0) (some (cZ a0 a2)) (some false)
abbrev mA.bX:=ae→Int→Option (Bool)
def mA.eN(N:Nat)(cG:mA.bX)(x1:ae)(x3:Int):Option (Bool):=
 cond (aT x3 (List.length x1.1:Int)) (cond (aY x3 (List.length x1.1)) ((IE N ((List.getD x1.1 x3.toNat aW).1) (0:Int) (3:Int)).bind λr2=>cond (!r2) (some false) ((IE N (((List.getD x1.1 x3.toNat aW).2).1) (1:Int) (1000000000000:Int)).bind λr3=>cond (!r3) (some false) ((IE N ((((List.getD x1.1 x3.toNat aW).2).2).1) (0:Int) (1000000000:Int)).bind λr4=>cond (!r4) (some false) ((IE N (((((List.getD x1.1 x3.toNat aW).2).2).2).1) (0:Int) (1000000000:Int)).bind λr5=>cond (!r5) (some false) (cG x1 (W .i64 (x3+1))))))) (none)) (cond (cZ 0 x1.2.1) ((IE N x1.2.2.1 (0:Int) (4:Int)).bind λr7=>cond (r7) ((IE N x1.2.2.2.1 (0:Int) (1000000:Int)).bind λr8=>cond (r8) ((IE N x1.2.2.2.2.1 (0:Int) (1000000:Int)).bind λr9=>cond (r9) ((IE N x1.2.2.2.2.2.1 (1:Int) (4611686018427387904:Int)).bind λkF=>cond (kF) (some (cZ 0 x1.2.2.2.2.2.2.1)) (some false)) (some false)) (some false)) (some false)) (some false))
def mA.l4(N:Nat):Nat→mA.bX
 |0,_,_=>none
 |n+1,x1,x3=>mA.eN N (mA.l4 N n) x1 x3
def mA.b(N:Nat)(fN:mA.bX)(a0:ae):Option (Bool):=
 cond (aT (List.length a0.1:Int) 1) (some false) (cond (aT 6 (List.length a0.1:Int)) (some false) (fN a0 (0:Int)))
def mA(N:Nat)(a0:ae):Option (Bool):=mA.b N (mA.l4 N N) a0
abbrev gY.e7:=ae→an→an→(List (Int))→Int→Option (an×(Int))
abbrev gY.S3:=ae→an→an→(List (Int))→Option (an×(Int))
def gY.p6(N:Nat)(eO:gY.e7)(x1:ae)(x2:an)(x4:an)(x4l:List (Int))(x5:Int):Option (an×(Int)):=
 cond (aT x5 (List.length x1.1:Int)) (cond (aY x5 (List.length x1.1)) (cond (small (List.length x4l+List.length ([((List.getD x1.1 x5.toNat aW).2).1]))) (eO x1 x2 (x4.1,(x4.2.1,(x4.2.2.1,(x4.2.2.2.1,(de,x4.2.2.2.2.2))))) (x4l++([((List.getD x1.1 x5.toNat aW).2).1])) (W .i64 (x5+1))) (none)) (none)) (some ((x4.1,(x4.2.1,(x4.2.2.1,(x4.2.2.2.1,(x4l,x4.2.2.2.2.2))))),(0:Int)))
def gY.l7(N:Nat):Nat→gY.e7
 |0,_,_,_,_,_=>none
 |n+1,x1,x2,x4,x4l,x5=>gY.p6 N (gY.l7 N n) x1 x2 x4 x4l x5
def gY.Oe(N:Nat)(uj:gY.e7)(x1:ae)(x2:an)(x4:an)(x4l:List (Int)):Option (an×(Int)):=
 uj x1 x2 x4 x4l (0:Int)
def gY.j6(N:Nat)(x1:ae)(x2:an)(x4:an)(x4l:List (Int)):Option (an×(Int)):=gY.Oe N (gY.l7 N N) x1 x2 x4 x4l
def gY.b(N:Nat)(CR:gY.S3)(a0:ae):Option (an×(Int)):=
 (mA N a0).bind λr1=>cond (!r1) (some ((cg,(cT,(bq,(bq,(de,(dk,())))))),(1:Int))) (cond (!aN a0.2.1 0) (CR a0 (cg,(cT,(bq,(bq,(de,(dk,())))))) (cg,(cT,([((1:Int),((0:Int),((W .i64 (0-a0.2.1)),()))),((3:Int),((0:Int),(a0.2.1,())))],(bq,(de,(dk,())))))) de) (CR a0 (cg,(cT,(bq,(bq,(de,(dk,())))))) (cg,(cT,(bq,(bq,(de,(dk,())))))) de))
def gY(N:Nat)(a0:ae):Option (an×(Int)):=gY.b N (gY.j6 N) a0
def akm(N:Nat)(a0:ae):Option (aV×(Int)):=
 (gY N a0).bind λr1=>cond (!aN r1.2 0) (some (((0:Int),((0:Int),((cg,(cT,(bq,(bq,(de,(dk,())))))),(((0:Int),((0:Int),((0:Int),((0:Int),(cT,(([]:List ((Int)×((List ((Int)×((Int)×(Unit))))×((Int)×((Int)×((Int)×((Int)×(Unit)))))))),(cT,(de,(cg,(cg,())))))))))),(((0:Int),((0:Int),(EF,((0:Int),())))),()))))),r1.2)) (some (((0:Int),((1:Int),(r1.1,(((0:Int),((0:Int),((0:Int),((0:Int),(cT,(([]:List ((Int)×((List ((Int)×((Int)×(Unit))))×((Int)×((Int)×((Int)×((Int)×(Unit)))))))),(cT,(de,(cg,(cg,())))))))))),(((0:Int),((0:Int),(EF,((0:Int),())))),()))))),(0:Int)))
def akL(N:Nat)(a0:Int):Option (Bool):=
 cond (cZ 1 a0) (some (cZ a0 22)) (some false)
def adl(N:Nat)(a0:Int):Option (ByteArray):=
 cond (aN a0 1) (some (strOf [77])) (cond (aN a0 11) (some (strOf [77])) (cond (aN a0 12) (some (strOf [77])) (cond (aN a0 13) (some (strOf [77])) (cond (aN a0 2) (some (strOf [77,65,83])) (cond (aN a0 3) (some (strOf [65,81])) (cond (aN a0 4) (some (strOf [65,81])) (cond (aN a0 6) (some (strOf [65,81])) (cond (aN a0 5) (some (strOf [77,81])) (cond (aN a0 22) (some (strOf [77,81])) (cond (aN a0 7) (some (strOf [65,73,83,81,80])) (cond (aN a0 8) (some (strOf [65,68])) (cond (aN a0 9) (some (strOf [73,80])) (cond (aN a0 10) (some (strOf [81])) (cond (aN a0 14) (some (strOf [77,65])) (cond (aN a0 17) (some (strOf [65,68,81,80])) (cond (aN a0 19) (some (strOf [77,68,80])) (some (strOf []))))))))))))))))))
def akJ(N:Nat)(a0:Int):Option ((Int)×(Int)):=
 cond (aN a0 6) (some ((0:Int),(1000000000000:Int))) (cond (aN a0 7) (some ((1:Int),(1000000000:Int))) (cond (aN a0 17) (some ((1:Int),(1000000000:Int))) (cond (aN a0 10) (some ((1:Int),(1000000:Int))) (some ((1:Int),(9223372036854775807:Int))))))
def akK(N:Nat)(a0:Int):Option ((Int)×(Int)):=
 cond (aN a0 19) (some ((-1152921504606846976:Int),(1152921504606846976:Int))) (some ((1:Int),(1000000000000:Int)))
def adm(N:Nat)(a0:Int)(a1:Int):Option ((Int)×(Int)):=
 cond (aN a1 77) (some ((1:Int),(12:Int))) (cond (aN a1 65) (some ((1:Int),(24:Int))) (cond (aN a1 73) (some ((0:Int),(5:Int))) (cond (aN a1 83) (some ((1:Int),(2:Int))) (cond (aN a1 68) (some ((1:Int),(1099511627776:Int))) (cond (aN a1 81) ((akJ N a0).bind λr1=>some (r1.1,r1.2)) ((akK N a0).bind λr2=>some (r2.1,r2.2)))))))
def adn(N:Nat)(a0:g9)(a1:Int):Option (Int):=
 cond (aN a1 77) (some a0.2.1) (cond (aN a1 65) (some a0.2.2.1) (cond (aN a1 73) (some a0.2.2.2.1) (cond (aN a1 83) (some a0.2.2.2.2.1) (cond (aN a1 68) (some a0.2.2.2.2.2.1) (cond (aN a1 81) (some a0.2.2.2.2.2.2.1) (some a0.2.2.2.2.2.2.2.1))))))
def ado(N:Nat)(a0:g9)(a1:Int)(a2:Int):Option g9:=
 cond (aN a1 77) (some (a0.1,(a2,a0.2.2))) (cond (aN a1 65) (some (a0.1,(a0.2.1,(a2,a0.2.2.2)))) (cond (aN a1 73) (some (a0.1,(a0.2.1,(a0.2.2.1,(a2,a0.2.2.2.2))))) (cond (aN a1 83) (some (a0.1,(a0.2.1,(a0.2.2.1,(a0.2.2.2.1,(a2,a0.2.2.2.2.2)))))) (cond (aN a1 68) (some (a0.1,(a0.2.1,(a0.2.2.1,(a0.2.2.2.1,(a0.2.2.2.2.1,(a2,a0.2.2.2.2.2.2))))))) (cond (aN a1 81) (some (a0.1,(a0.2.1,(a0.2.2.1,(a0.2.2.2.1,(a0.2.2.2.2.1,(a0.2.2.2.2.2.1,(a2,a0.2.2.2.2.2.2.2)))))))) (some (a0.1,(a0.2.1,(a0.2.2.1,(a0.2.2.2.1,(a0.2.2.2.2.1,(a0.2.2.2.2.2.1,(a0.2.2.2.2.2.2.1,(a2,a0.2.2.2.2.2.2.2.2))))))))))))))
abbrev sF.iu:=g9→ByteArray→g9→Int→Option (Bool)
def sF.tX(N:Nat)(iv:sF.iu)(x1:g9)(x3:ByteArray)(x4:g9)(x5:Int):Option (Bool):=
 cond (aT x5 (ByteArray.size x3:Int)) (cond (aY x5 (ByteArray.size x3)) ((adm N x1.1 ((x3.data.getD x5.toNat 0).toNat:Int)).bind λr4=>cond (aY x5 (ByteArray.size x3)) ((adn N x1 ((x3.data.getD x5.toNat 0).toNat:Int)).bind λr5=>cond (aT r5 r4.1) (some false) (cond (aT r4.2 r5) (some false) (cond (aY x5 (ByteArray.size x3)) ((ado N x4 ((x3.data.getD x5.toNat 0).toNat:Int) r5).bind λr6=>iv x1 x3 r6 (W .i64 (x5+1))) (none)))) (none)) (none)) (some (p8 (.pair (.int .i64) (.pair (.int .i64) (.pair (.int .i64) (.pair (.int .i64) (.pair (.int .i64) (.pair (.int .i64) (.pair (.int .i64) (.pair (.int .i64) .unit)))))))) x4 x1))
def sF.l6(N:Nat):Nat→sF.iu
 |0,_,_,_,_=>none
 |n+1,x1,x3,x4,x5=>sF.tX N (sF.l6 N n) x1 x3 x4 x5
def sF.b(N:Nat)(wv:sF.iu)(a0:g9):Option (Bool):=
 (akL N a0.1).bind λr1=>cond (!r1) (some false) ((adl N a0.1).bind λr2=>wv a0 r2 (a0.1,zz7) (0:Int))
def sF(N:Nat)(a0:g9):Option (Bool):=sF.b N (sF.l6 N N) a0
abbrev oe.cO:=aD→Int→Option (Bool)
def oe.fy(N:Nat)(dO:oe.cO)(x0:aD)(x3:Int):Option (Bool):=
 cond (aT x3 (List.length x0:Int)) (cond (aY x3 (List.length x0)) (cond (aT ((List.getD x0 x3.toNat cv).1) (1:Int)) (some false) (cond (aY x3 (List.length x0)) (cond (aT 12 ((List.getD x0 x3.toNat cv).1)) (some false) (cond (aY x3 (List.length x0)) (cond (aT (((List.getD x0 x3.toNat cv).2).1) (1:Int)) (some false) (cond (aY x3 (List.length x0)) (cond (aT 4 (((List.getD x0 x3.toNat cv).2).1)) (some false) (cond (aT 0 x3) (cond (aY x3 (List.length x0)) (let v2:Int:=W .i64 (x3-1);cond (aY v2 (List.length x0)) (cond (cZ ((List.getD x0 x3.toNat cv).1) ((List.getD x0 v2.toNat cv).1)) (some false) (dO x0 (W .i64 (x3+1)))) (none)) (none)) (dO x0 (W .i64 (x3+1))))) (none))) (none))) (none))) (none)) (some true)
def oe.l2(N:Nat):Nat→oe.cO
 |0,_,_=>none
 |n+1,x0,x3=>oe.fy N (oe.l2 N n) x0 x3
def oe.b(N:Nat)(gG:oe.cO)(a0:aD):Option (Bool):=
 gG a0 (0:Int)
def oe(N:Nat)(a0:aD):Option (Bool):=oe.b N (oe.l2 N N) a0
abbrev m4.cO:=aD→Int→Int→Option (Int)
def m4.fy(N:Nat)(dO:m4.cO)(x0:aD)(x1:Int)(x5:Int):Option (Int):=
 cond (aT x5 (List.length x0:Int)) (cond (aY x5 (List.length x0)) (cond (aN ((List.getD x0 x5.toNat cv).1) x1) (cond (aY x5 (List.length x0)) (some (((List.getD x0 x5.toNat cv).2).1)) (none)) (dO x0 x1 (W .i64 (x5+1)))) (none)) (some (0:Int))
def m4.l2(N:Nat):Nat→m4.cO
 |0,_,_,_=>none
 |n+1,x0,x1,x5=>m4.fy N (m4.l2 N n) x0 x1 x5
def m4.b(N:Nat)(gG:m4.cO)(a0:aD)(a1:Int):Option (Int):=
 gG a0 a1 (0:Int)
def m4(N:Nat)(a0:aD)(a1:Int):Option (Int):=m4.b N (m4.l2 N N) a0 a1
abbrev iq.S5:=aD→Int→aD→Int→Option (aD×(Int))
abbrev iq.e7:=aD→Int→aD→Int→Option (aD×(Int))
def iq.On(N:Nat)(x0:aD)(x1:Int)(x6:aD)(x7:Int):Option (aD×(Int)):=
 cond (kd 0 x7 (List.length x0:Int) (List.length x0:Int)) (let v6:List ((Int)×((Int)×(Unit))):=List.drop (0:Int).toNat (List.take x7.toNat x0);cond (small (List.length x6+List.length v6)) (let v7:List ((Int)×((Int)×(Unit))):=x6++v6;cond (small (List.length v7+List.length ([(x1,((1:Int),()))]))) (let v8:List ((Int)×((Int)×(Unit))):=v7++([(x1,((1:Int),()))]);cond (kd x7 (List.length x0:Int) (List.length x0:Int) (List.length x0:Int)) (let v9:List ((Int)×((Int)×(Unit))):=List.drop x7.toNat (List.take (List.length x0:Int).toNat x0);cond (small (List.length v8+List.length v9)) (some ((v8++v9),(0:Int))) (none)) (none)) (none)) (none)) (none)
def iq.j9(N:Nat)(x0:aD)(x1:Int)(x6:aD)(x7:Int):Option (aD×(Int)):=iq.On N x0 x1 x6 x7
def iq.p6(N:Nat)(HO:iq.S5)(eO:iq.e7)(x0:aD)(x1:Int)(x6:aD)(x7:Int):Option (aD×(Int)):=
 cond (aT x7 (List.length x0:Int)) (cond (aY x7 (List.length x0)) (cond (aT ((List.getD x0 x7.toNat cv).1) x1) (eO x0 x1 x6 (W .i64 (x7+1))) (HO x0 x1 x6 x7)) (none)) (HO x0 x1 x6 x7)
def iq.l7(N:Nat):Nat→iq.e7
 |0,_,_,_,_=>none
 |n+1,x0,x1,x6,x7=>iq.p6 N (iq.j9 N) (iq.l7 N n) x0 x1 x6 x7
def iq.b(N:Nat)(uj:iq.e7)(a0:aD)(a1:Int):Option (aD×(Int)):=
 (oe N a0).bind λr1=>cond (!r1) (some ([],(1:Int))) (cond (aT a1 1) (some ([],(1:Int))) (cond (aT 12 a1) (some ([],(1:Int))) ((m4 N a0 a1).bind λr2=>cond (!aN r2 0) (some ([],(4:Int))) (uj a0 a1 ([]) (0:Int)))))
def iq(N:Nat)(a0:aD)(a1:Int):Option (aD×(Int)):=iq.b N (iq.l7 N N) a0 a1
def fC(N:Nat)(a0:Int):Option cK:=
 some (a0,cv)
abbrev mu.jq:=aO→Int→bT→Int→Option (Bool)
abbrev mu.S2:=aO→Int→bT→Option (Bool)
abbrev mu.cO:=aO→Int→Option (Bool)
def mu.Dy(N:Nat)(dO:mu.cO)(fQ:mu.jq)(x0:aO)(x3:Int)(x4:bT)(x5:Int):Option (Bool):=
 cond (aT x5 x3) (cond (aN x4.2.2.1 1) (cond (aY x5 (List.length x0)) (cond (aN ((((List.getD x0 x5.toNat aW).2).2).1) (1:Int)) (cond (aY x5 (List.length x0)) (cond (aN (((List.getD x0 x5.toNat aW).2).1) x4.2.1) (some false) (fQ x0 x3 x4 (W .i64 (x5+1)))) (none)) (fQ x0 x3 x4 (W .i64 (x5+1)))) (none)) (fQ x0 x3 x4 (W .i64 (x5+1)))) (dO x0 (W .i64 (x3+1)))
def mu.l8(N:Nat)(dO:mu.cO):Nat→mu.jq
 |0,_,_,_,_=>none
 |n+1,x0,x3,x4,x5=>mu.Dy N dO (mu.l8 N dO n) x0 x3 x4 x5
def mu.Rr(N:Nat)(HQ:mu.jq)(dO:mu.cO)(x0:aO)(x3:Int)(x4:bT):Option (Bool):=
 HQ x0 x3 x4 (0:Int)
def mu.j7(N:Nat)(dO:mu.cO)(x0:aO)(x3:Int)(x4:bT):Option (Bool):=mu.Rr N (mu.l8 N dO N) dO x0 x3 x4
def mu.fy(N:Nat)(CP:mu.S2)(dO:mu.cO)(x0:aO)(x3:Int):Option (Bool):=
 cond (aT x3 (List.length x0:Int)) (cond (aY x3 (List.length x0)) (cond (aT ((List.getD x0 x3.toNat aW).1) (1:Int)) (some false) (cond (aT 24 ((List.getD x0 x3.toNat aW).1)) (some false) (cond (aT (((List.getD x0 x3.toNat aW).2).1) (1:Int)) (some false) (cond (aT 12 (((List.getD x0 x3.toNat aW).2).1)) (some false) (cond (!aN ((((List.getD x0 x3.toNat aW).2).2).1) (1:Int)) (cond (!aN ((((List.getD x0 x3.toNat aW).2).2).1) (2:Int)) (some false) (cond (aT (((((List.getD x0 x3.toNat aW).2).2).2).1) (0:Int)) (some false) (cond (aT 1000000000000 (((((List.getD x0 x3.toNat aW).2).2).2).1)) (some false) (cond (aT 0 x3) (let v2:Int:=W .i64 (x3-1);cond (aY v2 (List.length x0)) (cond (cZ ((List.getD x0 x3.toNat aW).1) ((List.getD x0 v2.toNat aW).1)) (some false) (CP x0 x3 (List.getD x0 x3.toNat aW))) (none)) (CP x0 x3 (List.getD x0 x3.toNat aW)))))) (cond (aT (((((List.getD x0 x3.toNat aW).2).2).2).1) (0:Int)) (some false) (cond (aT 1000000000000 (((((List.getD x0 x3.toNat aW).2).2).2).1)) (some false) (cond (aT 0 x3) (let v9:Int:=W .i64 (x3-1);cond (aY v9 (List.length x0)) (cond (cZ ((List.getD x0 x3.toNat aW).1) ((List.getD x0 v9.toNat aW).1)) (some false) (CP x0 x3 (List.getD x0 x3.toNat aW))) (none)) (CP x0 x3 (List.getD x0 x3.toNat aW)))))))))) (none)) (some true)
def mu.l2(N:Nat):Nat→mu.cO
 |0,_,_=>none
 |n+1,x0,x3=>mu.fy N (mu.j7 N (mu.l2 N n)) (mu.l2 N n) x0 x3
def mu.b(N:Nat)(gG:mu.cO)(a0:aO):Option (Bool):=
 gG a0 (0:Int)
def mu(N:Nat)(a0:aO):Option (Bool):=mu.b N (mu.l2 N N) a0
abbrev oH.bX:=aD→aO→Int→Option (Bool)
def oH.eN(N:Nat)(cG:oH.bX)(x0:aD)(x1:aO)(x5:Int):Option (Bool):=
 cond (aT x5 (List.length x1:Int)) (cond (aY x5 (List.length x1)) ((m4 N x0 (((List.getD x1 x5.toNat aW).2).1)).bind λr4=>cond (aN r4 0) (some false) (cG x0 x1 (W .i64 (x5+1)))) (none)) (some true)
def oH.l4(N:Nat):Nat→oH.bX
 |0,_,_,_=>none
 |n+1,x0,x1,x5=>oH.eN N (oH.l4 N n) x0 x1 x5
def oH.b(N:Nat)(fN:oH.bX)(a0:aD)(a1:aO):Option (Bool):=
 (oe N a0).bind λr1=>cond (!r1) (some false) ((mu N a1).bind λr2=>cond (!r2) (some false) (fN a0 a1 (0:Int)))
def oH(N:Nat)(a0:aD)(a1:aO):Option (Bool):=oH.b N (oH.l4 N N) a0 a1
abbrev oh.cO:=aO→Int→bT→Int→Option (bT×(Bool))
def oh.fy(N:Nat)(dO:oh.cO)(x0:aO)(x1:Int)(x4:bT)(x6:Int):Option (bT×(Bool)):=
 cond (aT x6 (List.length x0:Int)) (cond (aY x6 (List.length x0)) (cond (aN ((List.getD x0 x6.toNat aW).1) x1) (cond (aY x6 (List.length x0)) (some (List.getD x0 x6.toNat aW,true)) (none)) (dO x0 x1 x4 (W .i64 (x6+1)))) (none)) (some (aW,false))
def oh.l2(N:Nat):Nat→oh.cO
 |0,_,_,_,_=>none
 |n+1,x0,x1,x4,x6=>oh.fy N (oh.l2 N n) x0 x1 x4 x6
def oh.b(N:Nat)(gG:oh.cO)(a0:aO)(a1:Int):Option (bT×(Bool)):=
 gG a0 a1 aW (0:Int)
def oh(N:Nat)(a0:aO)(a1:Int):Option (bT×(Bool)):=oh.b N (oh.l2 N N) a0 a1
abbrev zz.bX:=aO→Int→Int→Option (Int)
def zz.eN(N:Nat)(cG:zz.bX)(x0:aO)(x1:Int)(x5:Int):Option (Int):=
 cond (aT x5 (List.length x0:Int)) (cond (aY x5 (List.length x0)) (cond (aN (((List.getD x0 x5.toNat aW).2).1) x1) (cond (aY x5 (List.length x0)) (cond (aN ((((List.getD x0 x5.toNat aW).2).2).1) (1:Int)) (cond (aY x5 (List.length x0)) (some ((List.getD x0 x5.toNat aW).1)) (none)) (cG x0 x1 (W .i64 (x5+1)))) (none)) (cG x0 x1 (W .i64 (x5+1)))) (none)) (some (0:Int))
def zz.l4(N:Nat):Nat→zz.bX
 |0,_,_,_=>none
 |n+1,x0,x1,x5=>zz.eN N (zz.l4 N n) x0 x1 x5
def zz.b(N:Nat)(fN:zz.bX)(a0:aO)(a1:Int):Option (Int):=
 (mu N a0).bind λr1=>cond (!r1) (some (0:Int)) (fN a0 a1 (0:Int))
def zz(N:Nat)(a0:aO)(a1:Int):Option (Int):=zz.b N (zz.l4 N N) a0 a1
abbrev fm.BN:=aO→bT→aO→Int→Option (aO×(Int))
abbrev fm.gm:=aO→bT→aO→Int→Option (aO×(Int))
abbrev fm.P6:=aO→bT→Option (aO×(Int))
def fm.s0(N:Nat)(x1:aO)(x5:bT)(aX:aO)(bc:Int):Option (aO×(Int)):=
 cond (kd 0 bc (List.length x1:Int) (List.length x1:Int)) (let v10:List ((Int)×((Int)×((Int)×((Int)×(Unit))))):=List.drop (0:Int).toNat (List.take bc.toNat x1);cond (small (List.length aX+List.length v10)) (let v11:List ((Int)×((Int)×((Int)×((Int)×(Unit))))):=aX++v10;cond (small (List.length v11+List.length ([x5]))) (let Rt:List ((Int)×((Int)×((Int)×((Int)×(Unit))))):=v11++([x5]);cond (kd bc (List.length x1:Int) (List.length x1:Int) (List.length x1:Int)) (let v13:List ((Int)×((Int)×((Int)×((Int)×(Unit))))):=List.drop bc.toNat (List.take (List.length x1:Int).toNat x1);cond (small (List.length Rt+List.length v13)) (some ((Rt++v13),(0:Int))) (none)) (none)) (none)) (none)) (none)
def fm.ze(N:Nat)(x1:aO)(x5:bT)(aX:aO)(bc:Int):Option (aO×(Int)):=fm.s0 N x1 x5 aX bc
def fm.mF(N:Nat)(qG:fm.BN)(iW:fm.gm)(x1:aO)(x5:bT)(aX:aO)(bc:Int):Option (aO×(Int)):=
 cond (aT bc (List.length x1:Int)) (cond (aY bc (List.length x1)) (cond (aT ((List.getD x1 bc.toNat aW).1) x5.1) (iW x1 x5 aX (W .i64 (bc+1))) (qG x1 x5 aX bc)) (none)) (qG x1 x5 aX bc)
def fm.oi(N:Nat):Nat→fm.gm
 |0,_,_,_,_=>none
 |n+1,x1,x5,aX,bc=>fm.mF N (fm.ze N) (fm.oi N n) x1 x5 aX bc
def fm.CG(N:Nat)(vk:fm.gm)(x1:aO)(x5:bT):Option (aO×(Int)):=
 vk x1 x5 ([]) (0:Int)
def fm.Kl(N:Nat)(x1:aO)(x5:bT):Option (aO×(Int)):=fm.CG N (fm.oi N N) x1 x5
def fm.b(N:Nat)(DW:fm.P6)(a0:aD)(a1:aO)(a2:bT):Option (aO×(Int)):=
 (oH N a0 a1).bind λr1=>cond (!r1) (some ([],(1:Int))) ((mu N ([a2])).bind λr2=>cond (!r2) (some ([],(1:Int))) ((m4 N a0 a2.2.1).bind λr3=>cond (aN r3 0) (some ([],(3:Int))) (cond (!aN r3 1) (some ([],(7:Int))) ((oh N a1 a2.1).bind λr4=>cond (r4.2) (some ([],(4:Int))) (cond (aN a2.2.2.1 1) ((zz N a1 a2.2.1).bind λr5=>cond (!aN r5 0) (some ([],(4:Int))) (DW a1 a2)) (DW a1 a2))))))
def fm(N:Nat)(a0:aD)(a1:aO)(a2:bT):Option (aO×(Int)):=fm.b N (fm.Kl N) a0 a1 a2
def El(N:Nat)(a0:aO)(a1:Int):Option (bT×(Bool)):=
 (mu N a0).bind λr1=>cond (!r1) (some (aW,false)) ((oh N a0 a1).bind λr2=>some (r2.1,r2.2))
def SN(N:Nat)(a0:aV)(a1:Int):Option (Bool):=
 (El N a0.2.2.1.2.1 a1).bind λr1=>some r1.2
abbrev oD.cO:=(List (Int))→Int→Option (List (Int))
def oD.fy(N:Nat)(dO:oD.cO)(x0:List (Int))(x3:Int):Option (List (Int)):=
 cond (aT 0 x3) (let v2:Int:=W .i64 (x3-1);cond (aY v2 (List.length x0)) (cond (aN (List.getD x0 v2.toNat (0:Int)) (0:Int)) (dO x0 (W .i64 (x3-1))) (cond (kd 0 x3 x3 (List.length x0:Int)) (some (List.drop (0:Int).toNat (List.take x3.toNat x0))) (none))) (none)) (cond (kd 0 x3 x3 (List.length x0:Int)) (some (List.drop (0:Int).toNat (List.take x3.toNat x0))) (none))
def oD.l2(N:Nat):Nat→oD.cO
 |0,_,_=>none
 |n+1,x0,x3=>oD.fy N (oD.l2 N n) x0 x3
def oD.b(N:Nat)(gG:oD.cO)(a0:List (Int)):Option (List (Int)):=
 gG a0 (List.length a0:Int)
def oD(N:Nat)(a0:List (Int)):Option (List (Int)):=oD.b N (oD.l2 N N) a0
def F67(N:Nat)(a0:Int):Option (List (Int)):=
 cond (aT 32 0) (none) ((oD N ([(mW .and .u64 a0 4294967295),(shr .u64 a0 32)])).bind λr3=>some r3)
def VB(N:Nat)(a0:Bool)(a1:List (Int)):Option aJ:=
 (oD N a1).bind λr1=>cond (a0) (some (aT 0 (List.length r1:Int),(r1,()))) (some (false,(r1,())))
def jD(N:Nat)(a0:Int):Option aJ:=
 let v1:Int:=W .u64 a0;cond (aT a0 0) ((F67 N (W .u64 (0-v1))).bind λr3=>(VB N (aT a0 0) r3).bind λr4=>some r4) ((F67 N v1).bind λr5=>(VB N (aT a0 0) r5).bind λr6=>some r6)
def Xm(N:Nat)(a0:aJ):Option aJ:=
 (VB N (!a0.1) a0.2.1).bind λr1=>some r1
def CI(N:Nat)(a0:Int)(a1:Int)(a2:Int)(a3:Int)(a4:aJ):Option bJ:=
 (Xm N a4).bind λr1=>some ([(a0,(a1,(r1,()))),(a2,(a3,(a4,())))])
def F98(N:Nat)(a0:List (Int))(a1:Int):Option (Int):=
 cond (aT a1 (List.length a0:Int)) (cond (aY a1 (List.length a0)) (some (List.getD a0 a1.toNat (0:Int))) (none)) (some (0:Int))
abbrev wE.S3:=(List (Int))→(List (Int))→(List (Int))→Int→Int→Option (List (Int))
abbrev wE.bX:=(List (Int))→(List (Int))→(List (Int))→Int→Int→Option (List (Int))
def wE.Oe(N:Nat)(cG:wE.bX)(x0:List (Int))(x1:List (Int))(x5:List (Int))(x6:Int)(x7:Int):Option (List (Int)):=
 (F98 N x0 x7).bind λr3=>(F98 N x1 x7).bind λr4=>let v6:Int:=W .u64 (x6+(W .u64 (r3+r4)));let v7:Int:=mW .and .u64 v6 4294967295;cond (small (List.length x5+List.length ([v7]))) (cond (aT 32 0) (none) (cG x0 x1 (x5++([v7])) (shr .u64 v6 32) (W .i64 (x7+1)))) (none)
def wE.j6(N:Nat)(cG:wE.bX)(x0:List (Int))(x1:List (Int))(x5:List (Int))(x6:Int)(x7:Int):Option (List (Int)):=wE.Oe N cG x0 x1 x5 x6 x7
def wE.eN(N:Nat)(CR:wE.S3)(cG:wE.bX)(x0:List (Int))(x1:List (Int))(x5:List (Int))(x6:Int)(x7:Int):Option (List (Int)):=
 cond (aT x7 (List.length x0:Int)) (CR x0 x1 x5 x6 x7) (cond (aT x7 (List.length x1:Int)) (CR x0 x1 x5 x6 x7) (cond (aT 0 x6) (CR x0 x1 x5 x6 x7) (some x5)))
def wE.l4(N:Nat):Nat→wE.bX
 |0,_,_,_,_,_=>none
 |n+1,x0,x1,x5,x6,x7=>wE.eN N (wE.j6 N (wE.l4 N n)) (wE.l4 N n) x0 x1 x5 x6 x7
def wE.b(N:Nat)(fN:wE.bX)(a0:List (Int))(a1:List (Int)):Option (List (Int)):=
 fN a0 a1 ([]) (0:Int) (0:Int)
def wE(N:Nat)(a0:List (Int))(a1:List (Int)):Option (List (Int)):=wE.b N (wE.l4 N N) a0 a1
abbrev Eg.iu:=(List (Int))→(List (Int))→Int→Option (Int)
def Eg.tX(N:Nat)(iv:Eg.iu)(x0:List (Int))(x1:List (Int))(x5:Int):Option (Int):=
 cond (cZ 0 x5) (cond (aY x5 (List.length x0)) (cond (aY x5 (List.length x1)) (cond (aT (List.getD x0 x5.toNat (0:Int)) (List.getD x1 x5.toNat (0:Int))) (some (-1:Int)) (cond (aY x5 (List.length x0)) (cond (aY x5 (List.length x1)) (cond (aT (List.getD x1 x5.toNat (0:Int)) (List.getD x0 x5.toNat (0:Int))) (some (1:Int)) (iv x0 x1 (W .i64 (x5-1)))) (none)) (none))) (none)) (none)) (some (0:Int))
def Eg.l6(N:Nat):Nat→Eg.iu
 |0,_,_,_=>none
 |n+1,x0,x1,x5=>Eg.tX N (Eg.l6 N n) x0 x1 x5
def Eg.b(N:Nat)(wv:Eg.iu)(a0:List (Int))(a1:List (Int)):Option (Int):=
 cond (!aN (List.length a0:Int) (List.length a1:Int)) (cond (aT (List.length a0:Int) (List.length a1:Int)) (some (-1:Int)) (some (1:Int))) (wv a0 a1 (W .i64 ((List.length a0:Int)-1)))
def Eg(N:Nat)(a0:List (Int))(a1:List (Int)):Option (Int):=Eg.b N (Eg.l6 N N) a0 a1
abbrev EL.bX:=(List (Int))→(List (Int))→(List (Int))→Int→Int→Option (List (Int))
def EL.eN(N:Nat)(cG:EL.bX)(x0:List (Int))(x1:List (Int))(x5:List (Int))(x6:Int)(x7:Int):Option (List (Int)):=
 cond (aT x7 (List.length x0:Int)) (cond (aY x7 (List.length x0)) ((F98 N x1 x7).bind λr2=>let v3:Int:=W .u64 (r2+x6);cond (aT (List.getD x0 x7.toNat (0:Int)) v3) (let v5:Int:=W .u64 ((W .u64 ((List.getD x0 x7.toNat (0:Int))+4294967296))-v3);cond (small (List.length x5+List.length ([v5]))) (cG x0 x1 (x5++([v5])) (1:Int) (W .i64 (x7+1))) (none)) (let v8:Int:=W .u64 ((List.getD x0 x7.toNat (0:Int))-v3);cond (small (List.length x5+List.length ([v8]))) (cG x0 x1 (x5++([v8])) (0:Int) (W .i64 (x7+1))) (none))) (none)) (some x5)
def EL.l4(N:Nat):Nat→EL.bX
 |0,_,_,_,_,_=>none
 |n+1,x0,x1,x5,x6,x7=>EL.eN N (EL.l4 N n) x0 x1 x5 x6 x7
def EL.b(N:Nat)(fN:EL.bX)(a0:List (Int))(a1:List (Int)):Option (List (Int)):=
 fN a0 a1 ([]) (0:Int) (0:Int)
def EL(N:Nat)(a0:List (Int))(a1:List (Int)):Option (List (Int)):=EL.b N (EL.l4 N N) a0 a1
def zT(N:Nat)(a0:aJ)(a1:aJ):Option aJ:=
 cond (p8 .bool a0.1 a1.1) ((wE N a0.2.1 a1.2.1).bind λr1=>(VB N a0.1 r1).bind λr2=>some r2) ((Eg N a0.2.1 a1.2.1).bind λr3=>cond (cZ 0 r3) ((EL N a0.2.1 a1.2.1).bind λr4=>(VB N a0.1 r4).bind λr5=>some r5) ((EL N a1.2.1 a0.2.1).bind λr6=>(VB N a1.1 r6).bind λr7=>some r7))
def xD(N:Nat)(a0:aJ):Option ((Int)×(Bool)):=
 cond (aT 2 (List.length a0.2.1:Int)) (some ((0:Int),false)) ((F98 N a0.2.1 (0:Int)).bind λr1=>(F98 N a0.2.1 (1:Int)).bind λr2=>cond (aT 32 0) (none) (let v4:Int:=mW .or .u64 r1 (W .u64 (shl .u64 r2 32));cond (a0.1) (cond (aT 9223372036854775808 v4) (some ((0:Int),false)) (some ((W .i64 (W .u64 (0-v4))),true))) (cond (aT 9223372036854775807 v4) (some ((0:Int),false)) (some ((W .i64 v4),true)))))
def Se(N:Nat)(a0:aJ):Option ((Int)×(Bool)):=
 (xD N a0).bind λr1=>cond (!r1.2) (some ((0:Int),false)) (cond (aN r1.1 (-9223372036854775808)) (some ((0:Int),false)) (some (r1.1,true)))
abbrev cA.HR:=au→au→au→Int→Int→Int→Int→Bool→aJ→Int→Option (au×(Bool))
abbrev cA.P3:=au→au→au→Int→Int→Int→Int→Bool→Option (au×(Bool))
abbrev cA.e7:=au→au→au→Int→Int→Int→Option (au×(Bool))
abbrev cA.bX:=au→au→au→Int→Int→Option (au×(Bool))
def cA.IM(N:Nat)(cG:cA.bX)(eO:cA.e7)(KI:cA.HR)(x0:au)(x1:au)(x6:au)(x7:Int)(x8:Int)(x9:Int)(bb:Int)(aX:Bool)(bc:aJ)(bU:Int):Option (au×(Bool)):=
 cond (aT bU (List.length x1:Int)) (cond (aY bU (List.length x1)) (cond (aN ((List.getD x1 bU.toNat a6).1) x8) (cond (aY bU (List.length x1)) (cond (aN (((List.getD x1 bU.toNat a6).2).1) x9) (cond (aY bU (List.length x1)) ((jD N ((((List.getD x1 bU.toNat a6).2).2).1)).bind λr6=>(zT N bc r6).bind λr7=>KI x0 x1 x6 x7 x8 x9 bb true r7 (W .i64 (bU+1))) (none)) (KI x0 x1 x6 x7 x8 x9 bb aX bc (W .i64 (bU+1)))) (none)) (KI x0 x1 x6 x7 x8 x9 bb aX bc (W .i64 (bU+1)))) (none)) (cond (aX) ((jD N bb).bind λod=>(zT N bc od).bind λpn=>(Se N pn).bind λnU=>cond (!nU.2) (some ([],false)) (cond (!aN nU.1 0) (cond (small (List.length x6+List.length ([(x8,(x9,(nU.1,())))]))) (eO x0 x1 (x6++([(x8,(x9,(nU.1,())))])) x7 x8 (W .i64 (x9+1))) (none)) (eO x0 x1 x6 x7 x8 (W .i64 (x9+1))))) (cond (!aN bb 0) (cond (small (List.length x6+List.length ([(x8,(x9,(bb,())))]))) (eO x0 x1 (x6++([(x8,(x9,(bb,())))])) x7 x8 (W .i64 (x9+1))) (none)) (eO x0 x1 x6 x7 x8 (W .i64 (x9+1)))))
def cA.JG(N:Nat)(cG:cA.bX)(eO:cA.e7):Nat→cA.HR
 |0,_,_,_,_,_,_,_,_,_,_=>none
 |n+1,x0,x1,x6,x7,x8,x9,bb,aX,bc,bU=>cA.IM N cG eO (cA.JG N cG eO n) x0 x1 x6 x7 x8 x9 bb aX bc bU
def cA.A7(N:Nat)(aaJ:cA.HR)(cG:cA.bX)(eO:cA.e7)(x0:au)(x1:au)(x6:au)(x7:Int)(x8:Int)(x9:Int)(bb:Int)(aX:Bool):Option (au×(Bool)):=
 aaJ x0 x1 x6 x7 x8 x9 bb aX (false,p9) (0:Int)
def cA.Lp(N:Nat)(cG:cA.bX)(eO:cA.e7)(x0:au)(x1:au)(x6:au)(x7:Int)(x8:Int)(x9:Int)(bb:Int)(aX:Bool):Option (au×(Bool)):=cA.A7 N (cA.JG N cG eO N) cG eO x0 x1 x6 x7 x8 x9 bb aX
def cA.p6(N:Nat)(wG:cA.P3)(cG:cA.bX)(eO:cA.e7)(x0:au)(x1:au)(x6:au)(x7:Int)(x8:Int)(x9:Int):Option (au×(Bool)):=
 cond (aT x9 6) (cond (aT x7 (List.length x0:Int)) (cond (aY x7 (List.length x0)) (cond (aN ((List.getD x0 x7.toNat a6).1) x8) (cond (aY x7 (List.length x0)) (cond (aN (((List.getD x0 x7.toNat a6).2).1) x9) (cond (aY x7 (List.length x0)) (wG x0 x1 x6 (W .i64 (x7+1)) x8 x9 ((((List.getD x0 x7.toNat a6).2).2).1) false) (none)) (wG x0 x1 x6 x7 x8 x9 (0:Int) false)) (none)) (wG x0 x1 x6 x7 x8 x9 (0:Int) false)) (none)) (wG x0 x1 x6 x7 x8 x9 (0:Int) false)) (cG x0 x1 x6 x7 (W .i64 (x8+1)))
def cA.l7(N:Nat)(cG:cA.bX):Nat→cA.e7
 |0,_,_,_,_,_,_=>none
 |n+1,x0,x1,x6,x7,x8,x9=>cA.p6 N (cA.Lp N cG (cA.l7 N cG n)) cG (cA.l7 N cG n) x0 x1 x6 x7 x8 x9
def cA.eN(N:Nat)(uj:cA.e7)(cG:cA.bX)(x0:au)(x1:au)(x6:au)(x7:Int)(x8:Int):Option (au×(Bool)):=
 cond (cZ x8 24) (uj x0 x1 x6 x7 x8 (0:Int)) (some (x6,true))
def cA.l4(N:Nat):Nat→cA.bX
 |0,_,_,_,_,_=>none
 |n+1,x0,x1,x6,x7,x8=>cA.eN N (cA.l7 N (cA.l4 N n) N) (cA.l4 N n) x0 x1 x6 x7 x8
def cA.b(N:Nat)(fN:cA.bX)(a0:au)(a1:au):Option (au×(Bool)):=
 fN a0 a1 ([]) (0:Int) (0:Int)
def cA(N:Nat)(a0:au)(a1:au):Option (au×(Bool)):=cA.b N (cA.l4 N N) a0 a1
abbrev nS.eh:=Int→Int→Int→bJ→aJ→Bool→Int→Option ((Int)×(Bool))
def nS.ob(N:Nat)(dA:nS.eh)(x0:Int)(x1:Int)(x2:Int)(x3:bJ)(bb:aJ)(aX:Bool)(bc:Int):Option ((Int)×(Bool)):=
 cond (aT bc (List.length x3:Int)) (cond (aY bc (List.length x3)) (cond (aN ((List.getD x3 bc.toNat ((0:Int),((0:Int),((false,p9),())))).1) x1) (cond (aY bc (List.length x3)) (cond (aN (((List.getD x3 bc.toNat ((0:Int),((0:Int),((false,p9),())))).2).1) x2) (cond (aY bc (List.length x3)) ((zT N bb ((((List.getD x3 bc.toNat ((0:Int),((0:Int),((false,p9),())))).2).2).1)).bind λr2=>dA x0 x1 x2 x3 r2 true (W .i64 (bc+1))) (none)) (dA x0 x1 x2 x3 bb aX (W .i64 (bc+1)))) (none)) (dA x0 x1 x2 x3 bb aX (W .i64 (bc+1)))) (none)) (cond (!aX) (some (x0,true)) ((jD N x0).bind λr6=>(zT N bb r6).bind λr7=>(xD N r7).bind λr8=>some (r8.1,r8.2)))
def nS.l3(N:Nat):Nat→nS.eh
 |0,_,_,_,_,_,_,_=>none
 |n+1,x0,x1,x2,x3,bb,aX,bc=>nS.ob N (nS.l3 N n) x0 x1 x2 x3 bb aX bc
def nS.b(N:Nat)(o4:nS.eh)(a0:Int)(a1:Int)(a2:Int)(a3:bJ):Option ((Int)×(Bool)):=
 o4 a0 a1 a2 a3 (false,p9) false (0:Int)
def nS(N:Nat)(a0:Int)(a1:Int)(a2:Int)(a3:bJ):Option ((Int)×(Bool)):=nS.b N (nS.l3 N N) a0 a1 a2 a3
abbrev dH.P3:=au→bJ→au→Int→Int→Int→Int→Option (au×(Bool))
abbrev dH.e7:=au→bJ→au→Int→Int→Int→Option (au×(Bool))
abbrev dH.bX:=au→bJ→au→Int→Int→Option (au×(Bool))
def dH.A7(N:Nat)(cG:dH.bX)(eO:dH.e7)(x0:au)(x1:bJ)(x6:au)(x7:Int)(x8:Int)(x9:Int)(bb:Int):Option (au×(Bool)):=
 (nS N bb x8 x9 x1).bind λr5=>cond (!r5.2) (some ([],false)) (cond (!aN r5.1 0) (cond (small (List.length x6+List.length ([(x8,(x9,(r5.1,())))]))) (eO x0 x1 (x6++([(x8,(x9,(r5.1,())))])) x7 x8 (W .i64 (x9+1))) (none)) (eO x0 x1 x6 x7 x8 (W .i64 (x9+1))))
def dH.Lp(N:Nat)(cG:dH.bX)(eO:dH.e7)(x0:au)(x1:bJ)(x6:au)(x7:Int)(x8:Int)(x9:Int)(bb:Int):Option (au×(Bool)):=dH.A7 N cG eO x0 x1 x6 x7 x8 x9 bb
def dH.p6(N:Nat)(wG:dH.P3)(cG:dH.bX)(eO:dH.e7)(x0:au)(x1:bJ)(x6:au)(x7:Int)(x8:Int)(x9:Int):Option (au×(Bool)):=
 cond (cZ x9 24) (cond (aT x7 (List.length x0:Int)) (cond (aY x7 (List.length x0)) (cond (aN ((List.getD x0 x7.toNat a6).1) x8) (cond (aY x7 (List.length x0)) (cond (aN (((List.getD x0 x7.toNat a6).2).1) x9) (cond (aY x7 (List.length x0)) (wG x0 x1 x6 (W .i64 (x7+1)) x8 x9 ((((List.getD x0 x7.toNat a6).2).2).1)) (none)) (wG x0 x1 x6 x7 x8 x9 (0:Int))) (none)) (wG x0 x1 x6 x7 x8 x9 (0:Int))) (none)) (wG x0 x1 x6 x7 x8 x9 (0:Int))) (cG x0 x1 x6 x7 (W .i64 (x8+1)))
def dH.l7(N:Nat)(cG:dH.bX):Nat→dH.e7
 |0,_,_,_,_,_,_=>none
 |n+1,x0,x1,x6,x7,x8,x9=>dH.p6 N (dH.Lp N cG (dH.l7 N cG n)) cG (dH.l7 N cG n) x0 x1 x6 x7 x8 x9
def dH.eN(N:Nat)(uj:dH.e7)(cG:dH.bX)(x0:au)(x1:bJ)(x6:au)(x7:Int)(x8:Int):Option (au×(Bool)):=
 cond (cZ x8 7) (uj x0 x1 x6 x7 x8 (0:Int)) (some (x6,true))
def dH.l4(N:Nat):Nat→dH.bX
 |0,_,_,_,_,_=>none
 |n+1,x0,x1,x6,x7,x8=>dH.eN N (dH.l7 N (dH.l4 N n) N) (dH.l4 N n) x0 x1 x6 x7 x8
def dH.b(N:Nat)(fN:dH.bX)(a0:au)(a1:bJ):Option (au×(Bool)):=
 fN a0 a1 ([]) (0:Int) (1:Int)
def dH(N:Nat)(a0:au)(a1:bJ):Option (au×(Bool)):=dH.b N (dH.l4 N N) a0 a1
def BG(N:Nat)(a0:an)(a1:au)(a2:bJ):Option (an×(Int)):=
 (cA N a0.2.2.2.1 a1).bind λr1=>cond (!r1.2) (some ((cg,(cT,(bq,(bq,(de,(dk,())))))),(2:Int))) ((dH N a0.2.2.1 a2).bind λr2=>cond (!r2.2) (some ((cg,(cT,(bq,(bq,(de,(dk,())))))),(2:Int))) (some ((a0.1,(a0.2.1,(r2.1,(r1.1,a0.2.2.2.2)))),(0:Int))))
def PM(N:Nat)(a0:aV)(a1:Int)(a2:Int)(a3:Int)(a4:Int)(a5:Int):Option (aV×cK):=
 (jD N a5).bind λr1=>(CI N a1 a2 a3 a4 r1).bind λr2=>(BG N a0.2.2.1 bq r2).bind λr3=>some ((a0.1,(a0.2.1,(r3.1,a0.2.2.2))),(r3.2,cv))
abbrev pL.bO:=au→Int→aJ→aJ→Int→Option aJ
def pL.eA(N:Nat)(bQ:pL.bO)(x0:au)(x1:Int)(x4:aJ)(x5:aJ)(x6:Int):Option aJ:=
 cond (aT x6 (List.length x0:Int)) (cond (aY x6 (List.length x0)) (cond (aN (((List.getD x0 x6.toNat a6).2).1) x1) (cond (aY x6 (List.length x0)) ((jD N ((((List.getD x0 x6.toNat a6).2).2).1)).bind λr3=>(zT N x5 r3).bind λr4=>bQ x0 x1 x4 r4 (W .i64 (x6+1))) (none)) (bQ x0 x1 x4 x5 (W .i64 (x6+1)))) (none)) (some x5)
def pL.l5(N:Nat):Nat→pL.bO
 |0,_,_,_,_,_=>none
 |n+1,x0,x1,x4,x5,x6=>pL.eA N (pL.l5 N n) x0 x1 x4 x5 x6
def pL.b(N:Nat)(ff:pL.bO)(a0:au)(a1:Int):Option aJ:=
 (zU N a0).bind λr1=>cond (!r1) (some (false,p9)) (ff a0 a1 (false,p9) (false,p9) (0:Int))
def pL(N:Nat)(a0:au)(a1:Int):Option aJ:=pL.b N (pL.l5 N N) a0 a1
def Ol(N:Nat)(a0:aJ):Option (Int):=
 cond (aN (List.length a0.2.1:Int) 0) (some (0:Int)) (cond (a0.1) (some (-1:Int)) (some (1:Int)))
abbrev qp.cO:=au→Int→Option (Bool)
def qp.fy(N:Nat)(dO:qp.cO)(x0:au)(x3:Int):Option (Bool):=
 cond (aT x3 6) ((pL N x0 x3).bind λr2=>(Ol N r2).bind λr3=>cond (!aN r3 0) (some false) (dO x0 (W .i64 (x3+1)))) ((zU N x0).bind λr5=>some r5)
def qp.l2(N:Nat):Nat→qp.cO
 |0,_,_=>none
 |n+1,x0,x3=>qp.fy N (qp.l2 N n) x0 x3
def qp.b(N:Nat)(gG:qp.cO)(a0:au):Option (Bool):=
 gG a0 (0:Int)
def qp(N:Nat)(a0:au):Option (Bool):=qp.b N (qp.l2 N N) a0
def Ek(N:Nat)(a0:Int):Option (Bool):=
 cond (cZ 1 a0) (some (cZ a0 1000000000000)) (some false)
def R4(N:Nat)(a0:c7):Option (Bool):=
 cond (cZ 1 a0.1) (cond (cZ a0.1 1099511627776) (cond (cZ 1 a0.2.1) (cond (cZ a0.2.1 24) (cond (cZ 0 a0.2.2.1) (cond (aT a0.2.2.1 6) (cond (aN a0.2.2.2.1 1) (cond (cZ 1 a0.2.2.2.2.1) (cond (cZ a0.2.2.2.2.1 1000000000) ((Ek N a0.2.2.2.2.2.1).bind λr1=>some r1) (some false)) (some false)) (cond (aN a0.2.2.2.1 2) (cond (cZ 1 a0.2.2.2.2.1) (cond (cZ a0.2.2.2.2.1 1000000000) ((Ek N a0.2.2.2.2.2.1).bind λr2=>some r2) (some false)) (some false)) (some false))) (some false)) (some false)) (some false)) (some false)) (some false)) (some false)
abbrev m0.bX:=bm→Int→Option (Bool)
def m0.eN(N:Nat)(cG:m0.bX)(x0:bm)(x3:Int):Option (Bool):=
 cond (aT x3 (List.length x0:Int)) (cond (aY x3 (List.length x0)) ((R4 N (List.getD x0 x3.toNat eT)).bind λr2=>cond (!r2) (some false) (cond (aT 0 x3) (cond (aY x3 (List.length x0)) (let v3:Int:=W .i64 (x3-1);cond (aY v3 (List.length x0)) (cond (cZ ((List.getD x0 x3.toNat eT).1) ((List.getD x0 v3.toNat eT).1)) (some false) (cG x0 (W .i64 (x3+1)))) (none)) (none)) (cG x0 (W .i64 (x3+1))))) (none)) (some true)
def m0.l4(N:Nat):Nat→m0.bX
 |0,_,_=>none
 |n+1,x0,x3=>m0.eN N (m0.l4 N n) x0 x3
def m0.b(N:Nat)(fN:m0.bX)(a0:bm):Option (Bool):=
 cond (aT 32 (List.length a0:Int)) (some false) (fN a0 (0:Int))
def m0(N:Nat)(a0:bm):Option (Bool):=m0.b N (m0.l4 N N) a0
abbrev pJ.bO:=au→aJ→aJ→Int→Option aJ
def pJ.eA(N:Nat)(bQ:pJ.bO)(x0:au)(x2:aJ)(x3:aJ)(x4:Int):Option aJ:=
 cond (aT x4 (List.length x0:Int)) (cond (aY x4 (List.length x0)) ((jD N ((((List.getD x0 x4.toNat a6).2).2).1)).bind λr3=>(zT N x3 r3).bind λr4=>bQ x0 x2 r4 (W .i64 (x4+1))) (none)) (some x3)
def pJ.l5(N:Nat):Nat→pJ.bO
 |0,_,_,_,_=>none
 |n+1,x0,x2,x3,x4=>pJ.eA N (pJ.l5 N n) x0 x2 x3 x4
def pJ.b(N:Nat)(ff:pJ.bO)(a0:au):Option aJ:=
 (Cj N a0).bind λr1=>cond (!r1) (some (false,p9)) (ff a0 (false,p9) (false,p9) (0:Int))
def pJ(N:Nat)(a0:au):Option aJ:=pJ.b N (pJ.l5 N N) a0
def Lv(N:Nat)(a0:an)(a1:Int):Option (Bool):=
 (El N a0.2.1 a1).bind λr1=>cond (r1.2) (some true) (some (aN a1 0))
def Bc(N:Nat)(a0:aD)(a1:Int):Option (Int):=
 (oe N a0).bind λr1=>cond (!r1) (some (0:Int)) ((m4 N a0 a1).bind λr2=>some r2)
abbrev cN.sP:=ae→an→Int→Option (Bool)
abbrev cN.HK:=ae→an→Int→Option (Bool)
abbrev cN.fZ:=ae→an→Int→Option (Bool)
abbrev cN.iu:=ae→an→Int→Option (Bool)
def cN.wQ(N:Nat)(HH:cN.sP)(x2:ae)(x3:an)(x9:Int):Option (Bool):=
 cond (aT x9 (List.length x3.2.2.2.2.2.1:Int)) (cond (aY x9 (List.length x3.2.2.2.2.2.1)) ((Lv N x3 (((List.getD x3.2.2.2.2.2.1 x9.toNat eT).2).1)).bind λW7=>cond (!W7) (some false) (cond (aY x9 (List.length x3.2.2.2.2.2.1)) (cond (cZ (List.length x2.1:Int) ((((List.getD x3.2.2.2.2.2.1 x9.toNat eT).2).2).1)) (some false) (HH x2 x3 (W .i64 (x9+1)))) (none))) (none)) (some true)
def cN.xL(N:Nat):Nat→cN.sP
 |0,_,_,_=>none
 |n+1,x2,x3,x9=>cN.wQ N (cN.xL N n) x2 x3 x9
def cN.N9(N:Nat)(HI:cN.sP)(UM:cN.HK)(x2:ae)(x3:an)(x8:Int):Option (Bool):=
 cond (aT x8 (List.length x3.2.2.2.2.1:Int)) (cond (aY x8 (List.length x3.2.2.2.2.1)) ((Ek N (List.getD x3.2.2.2.2.1 x8.toNat (0:Int))).bind λI2=>cond (!I2) (some false) (UM x2 x3 (W .i64 (x8+1)))) (none)) (HI x2 x3 (0:Int))
def cN.N8(N:Nat):Nat→cN.HK
 |0,_,_,_=>none
 |n+1,x2,x3,x8=>cN.N9 N (cN.xL N N) (cN.N8 N n) x2 x3 x8
def cN.kt(N:Nat)(aaA:cN.HK)(ia:cN.fZ)(x2:ae)(x3:an)(x7:Int):Option (Bool):=
 cond (aT x7 (List.length x3.2.2.2.1:Int)) (cond (aY x7 (List.length x3.2.2.2.1)) ((Lv N x3 ((List.getD x3.2.2.2.1 x7.toNat a6).1)).bind λRs=>cond (!Rs) (some false) (cond (aY x7 (List.length x3.2.2.2.1)) (cond (cZ (List.length x2.1:Int) (((List.getD x3.2.2.2.1 x7.toNat a6).2).1)) (some false) (ia x2 x3 (W .i64 (x7+1)))) (none))) (none)) (aaA x2 x3 (0:Int))
def cN.lx(N:Nat):Nat→cN.fZ
 |0,_,_,_=>none
 |n+1,x2,x3,x7=>cN.kt N (cN.N8 N N) (cN.lx N n) x2 x3 x7
def cN.tX(N:Nat)(sS:cN.fZ)(iv:cN.iu)(x2:ae)(x3:an)(x5:Int):Option (Bool):=
 cond (aT x5 (List.length x3.2.2.1:Int)) (cond (aY x5 (List.length x3.2.2.1)) (cond (aN ((List.getD x3.2.2.1 x5.toNat a6).1) (5:Int)) ((Lv N x3 (((List.getD x3.2.2.1 x5.toNat a6).2).1)).bind λr9=>cond (!r9) (some false) (cond (aN ((List.getD x3.2.2.1 x5.toNat a6).1) (6:Int)) ((Bc N x3.1 (((List.getD x3.2.2.1 x5.toNat a6).2).1)).bind λkF=>cond (aN kF 0) (some false) (iv x2 x3 (W .i64 (x5+1)))) (cond (aN ((List.getD x3.2.2.1 x5.toNat a6).1) (7:Int)) ((Bc N x3.1 (((List.getD x3.2.2.1 x5.toNat a6).2).1)).bind λpn=>cond (aN pn 0) (some false) (iv x2 x3 (W .i64 (x5+1)))) (iv x2 x3 (W .i64 (x5+1)))))) (cond (aN ((List.getD x3.2.2.1 x5.toNat a6).1) (6:Int)) ((Bc N x3.1 (((List.getD x3.2.2.1 x5.toNat a6).2).1)).bind λtN=>cond (aN tN 0) (some false) (iv x2 x3 (W .i64 (x5+1)))) (cond (aN ((List.getD x3.2.2.1 x5.toNat a6).1) (7:Int)) ((Bc N x3.1 (((List.getD x3.2.2.1 x5.toNat a6).2).1)).bind λwR=>cond (aN wR 0) (some false) (iv x2 x3 (W .i64 (x5+1)))) (iv x2 x3 (W .i64 (x5+1)))))) (none)) (sS x2 x3 (0:Int))
def cN.l6(N:Nat):Nat→cN.iu
 |0,_,_,_=>none
 |n+1,x2,x3,x5=>cN.tX N (cN.lx N N) (cN.l6 N n) x2 x3 x5
def cN.b(N:Nat)(wv:cN.iu)(a0:ae)(a1:an):Option (Bool):=
 (mA N a0).bind λr1=>cond (!r1) (some false) ((oH N a1.1 a1.2.1).bind λr2=>cond (!r2) (some false) ((Cj N a1.2.2.1).bind λr3=>cond (!r3) (some false) ((qp N a1.2.2.2.1).bind λr4=>cond (!r4) (some false) ((m0 N a1.2.2.2.2.2.1).bind λr5=>cond (!r5) (some false) (cond (!aN (List.length a1.2.2.2.2.1:Int) (List.length a0.1:Int)) (some false) ((pJ N a1.2.2.1).bind λr6=>(Ol N r6).bind λr7=>cond (!aN r7 0) (some false) (wv a0 a1 (0:Int))))))))
def cN(N:Nat)(a0:ae)(a1:an):Option (Bool):=cN.b N (cN.l6 N N) a0 a1
def RU(N:Nat)(a0:aJ)(a1:aJ):Option aJ:=
 (Xm N a1).bind λr1=>(zT N a0 r1).bind λr2=>some r2
abbrev y9.bO:=au→Int→aD→Int→Option aD
def y9.eA(N:Nat)(bQ:y9.bO)(x0:au)(x1:Int)(x5:aD)(x6:Int):Option aD:=
 cond (aT x6 (List.length x0:Int)) (cond (aY x6 (List.length x0)) (cond (aN ((List.getD x0 x6.toNat a6).1) x1) (cond (aY x6 (List.length x0)) (cond (aY x6 (List.length x0)) (cond (small (List.length x5+List.length ([(((List.getD x0 x6.toNat a6).2).1,((((List.getD x0 x6.toNat a6).2).2).1,()))]))) (bQ x0 x1 (x5++([(((List.getD x0 x6.toNat a6).2).1,((((List.getD x0 x6.toNat a6).2).2).1,()))])) (W .i64 (x6+1))) (none)) (none)) (none)) (bQ x0 x1 x5 (W .i64 (x6+1)))) (none)) (some x5)
def y9.l5(N:Nat):Nat→y9.bO
 |0,_,_,_,_=>none
 |n+1,x0,x1,x5,x6=>y9.eA N (y9.l5 N n) x0 x1 x5 x6
def y9.b(N:Nat)(ff:y9.bO)(a0:au)(a1:Int):Option aD:=
 (zU N a0).bind λr1=>cond (!r1) (some ([])) (ff a0 a1 ([]) (0:Int))
def y9(N:Nat)(a0:au)(a1:Int):Option aD:=y9.b N (y9.l5 N N) a0 a1
abbrev g8.e7:=bm→Int→au→Int→cK→Int→Option au
abbrev g8.eh:=bm→Int→au→Int→Option au
def g8.p6(N:Nat)(dA:g8.eh)(eO:g8.e7)(x0:bm)(x1:Int)(x5:au)(x6:Int)(x7:cK)(x8:Int):Option au:=
 cond (aT x8 (List.length x0:Int)) (cond (aY x8 (List.length x0)) (cond (!aN (((List.getD x0 x8.toNat eT).2).1) x1) (eO x0 x1 x5 x6 x7 (W .i64 (x8+1))) (cond (aY x8 (List.length x0)) (cond (!aN ((((List.getD x0 x8.toNat eT).2).2).1) x6) (eO x0 x1 x5 x6 x7 (W .i64 (x8+1))) (cond (aY x8 (List.length x0)) (cond (aN (((((List.getD x0 x8.toNat eT).2).2).2).1) (1:Int)) (cond (aY x8 (List.length x0)) (eO x0 x1 x5 x6 (x7.1,((W .i64 (x7.2.1+((((((List.getD x0 x8.toNat eT).2).2).2).2).1))),x7.2.2)) (W .i64 (x8+1))) (none)) (cond (aY x8 (List.length x0)) (eO x0 x1 x5 x6 (x7.1,(x7.2.1,((W .i64 (x7.2.2.1+((((((List.getD x0 x8.toNat eT).2).2).2).2).1))),x7.2.2.2))) (W .i64 (x8+1))) (none))) (none))) (none))) (none)) (cond (aT 0 x7.2.1) (cond (small (List.length x5+List.length ([x7]))) (dA x0 x1 (x5++([x7])) (W .i64 (x6+1))) (none)) (cond (aT 0 x7.2.2.1) (cond (small (List.length x5+List.length ([x7]))) (dA x0 x1 (x5++([x7])) (W .i64 (x6+1))) (none)) (dA x0 x1 x5 (W .i64 (x6+1)))))
def g8.l7(N:Nat)(dA:g8.eh):Nat→g8.e7
 |0,_,_,_,_,_,_=>none
 |n+1,x0,x1,x5,x6,x7,x8=>g8.p6 N dA (g8.l7 N dA n) x0 x1 x5 x6 x7 x8
def g8.ob(N:Nat)(uj:g8.e7)(dA:g8.eh)(x0:bm)(x1:Int)(x5:au)(x6:Int):Option au:=
 cond (aT x6 6) (uj x0 x1 x5 x6 (x6,cv) (0:Int)) (some x5)
def g8.l3(N:Nat):Nat→g8.eh
 |0,_,_,_,_=>none
 |n+1,x0,x1,x5,x6=>g8.ob N (g8.l7 N (g8.l3 N n) N) (g8.l3 N n) x0 x1 x5 x6
def g8.b(N:Nat)(o4:g8.eh)(a0:bm)(a1:Int):Option au:=
 o4 a0 a1 ([]) (0:Int)
def g8(N:Nat)(a0:bm)(a1:Int):Option au:=g8.b N (g8.l3 N N) a0 a1
abbrev nQ.bX:=aD→ae→Int→Option (Bool)
def nQ.eN(N:Nat)(cG:nQ.bX)(x1:aD)(x2:ae)(x5:Int):Option (Bool):=
 cond (aT x5 (List.length x1:Int)) (cond (aY x5 (List.length x1)) (cond (aT ((List.getD x1 x5.toNat cv).1) (0:Int)) (some false) (cond (aY x5 (List.length x1)) (cond (cZ (List.length x2.1:Int) ((List.getD x1 x5.toNat cv).1)) (some false) (cond (aY x5 (List.length x1)) (cond (aN (((List.getD x1 x5.toNat cv).2).1) (0:Int)) (some false) (cond (aY x5 (List.length x1)) (cond (aN (((List.getD x1 x5.toNat cv).2).1) (-9223372036854775808:Int)) (some false) (cond (aT 0 x5) (cond (aY x5 (List.length x1)) (let v3:Int:=W .i64 (x5-1);cond (aY v3 (List.length x1)) (cond (cZ ((List.getD x1 x5.toNat cv).1) ((List.getD x1 v3.toNat cv).1)) (some false) (cG x1 x2 (W .i64 (x5+1)))) (none)) (none)) (cG x1 x2 (W .i64 (x5+1))))) (none))) (none))) (none))) (none)) (some true)
def nQ.l4(N:Nat):Nat→nQ.bX
 |0,_,_,_=>none
 |n+1,x1,x2,x5=>nQ.eN N (nQ.l4 N n) x1 x2 x5
def nQ.b(N:Nat)(fN:nQ.bX)(a0:ae)(a1:aD):Option (Bool):=
 (mA N a0).bind λr1=>cond (!r1) (some false) (fN a1 a0 (0:Int))
def nQ(N:Nat)(a0:ae)(a1:aD):Option (Bool):=nQ.b N (nQ.l4 N N) a0 a1
abbrev qY.bO:=au→ae→Int→Int→Option (Bool)
def qY.eA(N:Nat)(bQ:qY.bO)(x1:au)(x2:ae)(x5:Int)(x6:Int):Option (Bool):=
 cond (aT x6 (List.length x1:Int)) (cond (aY x6 (List.length x1)) (cond (aT ((List.getD x1 x6.toNat a6).1) (0:Int)) (some false) (cond (cZ (List.length x2.1:Int) ((List.getD x1 x6.toNat a6).1)) (some false) (cond (aT (((List.getD x1 x6.toNat a6).2).1) (0:Int)) (some false) (cond (aT x5 (((List.getD x1 x6.toNat a6).2).1)) (some false) (cond (aT ((((List.getD x1 x6.toNat a6).2).2).1) (0:Int)) (some false) (cond (aT x5 ((((List.getD x1 x6.toNat a6).2).2).1)) (some false) (cond (aN (((List.getD x1 x6.toNat a6).2).1) (0:Int)) (cond (aN ((((List.getD x1 x6.toNat a6).2).2).1) (0:Int)) (some false) (cond (aT 0 x6) (let v3:Int:=W .i64 (x6-1);cond (aY v3 (List.length x1)) (cond (cZ ((List.getD x1 x6.toNat a6).1) ((List.getD x1 v3.toNat a6).1)) (some false) (bQ x1 x2 x5 (W .i64 (x6+1)))) (none)) (bQ x1 x2 x5 (W .i64 (x6+1))))) (cond (aT 0 x6) (let v6:Int:=W .i64 (x6-1);cond (aY v6 (List.length x1)) (cond (cZ ((List.getD x1 x6.toNat a6).1) ((List.getD x1 v6.toNat a6).1)) (some false) (bQ x1 x2 x5 (W .i64 (x6+1)))) (none)) (bQ x1 x2 x5 (W .i64 (x6+1))))))))))) (none)) (some true)
def qY.l5(N:Nat):Nat→qY.bO
 |0,_,_,_,_=>none
 |n+1,x1,x2,x5,x6=>qY.eA N (qY.l5 N n) x1 x2 x5 x6
def qY.b(N:Nat)(ff:qY.bO)(a0:ae)(a1:au):Option (Bool):=
 (mA N a0).bind λr1=>cond (!r1) (some false) (ff a1 a0 (33000000000:Int) (0:Int))
def qY(N:Nat)(a0:ae)(a1:au):Option (Bool):=qY.b N (qY.l5 N N) a0 a1
def Xn(N:Nat)(a0:aJ):Option aJ:=
 (VB N false a0.2.1).bind λr1=>some r1
def Lo(N:Nat)(a0:aJ)(a1:aJ):Option (Int):=
 (RU N a0 a1).bind λr1=>(Ol N r1).bind λr2=>some r2
abbrev jm.fZ:=au→Int→aJ→aJ→aJ→aJ→Int→Option (aJ×(Int))
abbrev jm.e7:=aD→au→Int→aJ→aJ→aJ→aJ→Int→Option (aJ×(Int))
def jm.kt(N:Nat)(ia:jm.fZ)(x2:au)(x3:Int)(x8:aJ)(bb:aJ)(aX:aJ)(bc:aJ)(ca:Int):Option (aJ×(Int)):=
 cond (aT ca (List.length x2:Int)) (cond (aY ca (List.length x2)) (cond (aN ((List.getD x2 ca.toNat a6).1) x3) (cond (aY ca (List.length x2)) ((jD N (((List.getD x2 ca.toNat a6).2).1)).bind λr8=>cond (aY ca (List.length x2)) ((jD N ((((List.getD x2 ca.toNat a6).2).2).1)).bind λr9=>ia x2 x3 x8 bb r8 r9 (W .i64 (ca+1))) (none)) (none)) (ia x2 x3 x8 bb aX bc (W .i64 (ca+1)))) (none)) ((zT N bb aX).bind λpn=>(Xn N pn).bind λnU=>(RU N bb bc).bind λsU=>(Xn N sU).bind λtN=>(Lo N tN nU).bind λyQ=>cond (aT 0 yQ) (some (tN,(0:Int))) (some (nU,(0:Int))))
def jm.lx(N:Nat):Nat→jm.fZ
 |0,_,_,_,_,_,_,_=>none
 |n+1,x2,x3,x8,bb,aX,bc,ca=>jm.kt N (jm.lx N n) x2 x3 x8 bb aX bc ca
def jm.p6(N:Nat)(sS:jm.fZ)(eO:jm.e7)(x1:aD)(x2:au)(x3:Int)(x8:aJ)(bb:aJ)(aX:aJ)(bc:aJ)(bU:Int):Option (aJ×(Int)):=
 cond (aT bU (List.length x1:Int)) (cond (aY bU (List.length x1)) (cond (aN ((List.getD x1 bU.toNat cv).1) x3) (cond (aY bU (List.length x1)) ((jD N (((List.getD x1 bU.toNat cv).2).1)).bind λr4=>eO x1 x2 x3 x8 r4 aX bc (W .i64 (bU+1))) (none)) (eO x1 x2 x3 x8 bb aX bc (W .i64 (bU+1)))) (none)) (sS x2 x3 x8 bb aX bc (0:Int))
def jm.l7(N:Nat):Nat→jm.e7
 |0,_,_,_,_,_,_,_,_=>none
 |n+1,x1,x2,x3,x8,bb,aX,bc,bU=>jm.p6 N (jm.lx N N) (jm.l7 N n) x1 x2 x3 x8 bb aX bc bU
def jm.b(N:Nat)(uj:jm.e7)(a0:ae)(a1:aD)(a2:au)(a3:Int):Option (aJ×(Int)):=
 (nQ N a0 a1).bind λr1=>cond (!r1) (some ((false,p9),(1:Int))) ((qY N a0 a2).bind λr2=>cond (!r2) (some ((false,p9),(1:Int))) (cond (aT a3 0) (some ((false,p9),(3:Int))) (cond (cZ (List.length a0.1:Int) a3) (some ((false,p9),(3:Int))) (uj a1 a2 a3 (false,p9) (false,p9) (false,p9) (false,p9) (0:Int)))))
def jm(N:Nat)(a0:ae)(a1:aD)(a2:au)(a3:Int):Option (aJ×(Int)):=jm.b N (jm.l7 N N) a0 a1 a2 a3
abbrev jE.S5:=aJ→aJ→aJ→(List (Int))→Int→Int→Int→Option aJ
abbrev jE.e7:=aJ→aJ→aJ→(List (Int))→Int→Int→Int→Option aJ
abbrev jE.eh:=aJ→aJ→aJ→(List (Int))→Int→Option aJ
def jE.On(N:Nat)(dA:jE.eh)(eO:jE.e7)(x2:aJ)(x3:aJ)(x4:aJ)(x5:List (Int))(x6:Int)(x7:Int)(x8:Int):Option aJ:=
 let v7:Int:=W .i64 (x6+x8);cond (aY v7 (List.length x5)) (cond (aY x6 (List.length x2.2.1)) ((F98 N x3.2.1 x8).bind λr8=>let v11:Int:=W .u64 (x7+(W .u64 ((List.getD x5 v7.toNat (0:Int))+(W .u64 ((List.getD x2.2.1 x6.toNat (0:Int))*r8)))));let Rt:Int:=W .i64 (x6+x8);cond (aY Rt (List.length x5)) (cond (aT 32 0) (none) (eO x2 x3 x4 (List.set x5 Rt.toNat (mW .and .u64 v11 4294967295)) x6 (shr .u64 v11 32) (W .i64 (x8+1)))) (none)) (none)) (none)
def jE.j9(N:Nat)(dA:jE.eh)(eO:jE.e7)(x2:aJ)(x3:aJ)(x4:aJ)(x5:List (Int))(x6:Int)(x7:Int)(x8:Int):Option aJ:=jE.On N dA eO x2 x3 x4 x5 x6 x7 x8
def jE.p6(N:Nat)(HO:jE.S5)(dA:jE.eh)(eO:jE.e7)(x2:aJ)(x3:aJ)(x4:aJ)(x5:List (Int))(x6:Int)(x7:Int)(x8:Int):Option aJ:=
 cond (aT x8 (List.length x3.2.1:Int)) (HO x2 x3 x4 x5 x6 x7 x8) (cond (aT 0 x7) (HO x2 x3 x4 x5 x6 x7 x8) (dA x2 x3 x4 x5 (W .i64 (x6+1))))
def jE.l7(N:Nat)(dA:jE.eh):Nat→jE.e7
 |0,_,_,_,_,_,_,_=>none
 |n+1,x2,x3,x4,x5,x6,x7,x8=>jE.p6 N (jE.j9 N dA (jE.l7 N dA n)) dA (jE.l7 N dA n) x2 x3 x4 x5 x6 x7 x8
def jE.ob(N:Nat)(uj:jE.e7)(dA:jE.eh)(x2:aJ)(x3:aJ)(x4:aJ)(x5:List (Int))(x6:Int):Option aJ:=
 cond (aT x6 (List.length x2.2.1:Int)) (uj x2 x3 x4 x5 x6 (0:Int) (0:Int)) ((VB N (!(p8 .bool x2.1 x3.1)) x5).bind λBW=>some BW)
def jE.l3(N:Nat):Nat→jE.eh
 |0,_,_,_,_,_=>none
 |n+1,x2,x3,x4,x5,x6=>jE.ob N (jE.l7 N (jE.l3 N n) N) (jE.l3 N n) x2 x3 x4 x5 x6
def jE.b(N:Nat)(o4:jE.eh)(a0:aJ)(a1:aJ):Option aJ:=
 let v2:Int:=W .i64 ((W .i64 ((List.length a0.2.1:Int)+(List.length a1.2.1:Int)))+1);cond (jA v2 v2) (o4 a0 a1 (false,p9) (List.replicate v2.toNat (0:Int)) (0:Int)) (none)
def jE(N:Nat)(a0:aJ)(a1:aJ):Option aJ:=jE.b N (jE.l3 N N) a0 a1
abbrev qZ.bO:=aD→au→ae→aJ→aJ→Int→Option (aJ×(Int))
def qZ.eA(N:Nat)(bQ:qZ.bO)(x1:aD)(x2:au)(x3:ae)(x6:aJ)(x8:aJ)(x9:Int):Option (aJ×(Int)):=
 cond (aT x9 (List.length x3.1:Int)) ((jm N x3 x1 x2 x9).bind λr4=>cond (aY x9 (List.length x3.1)) ((jD N ((((List.getD x3.1 x9.toNat aW).2).2).1)).bind λr5=>(jE N r4.1 r5).bind λr6=>(zT N x8 r6).bind λr7=>bQ x1 x2 x3 x6 r7 (W .i64 (x9+1))) (none)) (some (x8,(0:Int)))
def qZ.l5(N:Nat):Nat→qZ.bO
 |0,_,_,_,_,_,_=>none
 |n+1,x1,x2,x3,x6,x8,x9=>qZ.eA N (qZ.l5 N n) x1 x2 x3 x6 x8 x9
def qZ.b(N:Nat)(ff:qZ.bO)(a0:ae)(a1:aD)(a2:au):Option (aJ×(Int)):=
 (nQ N a0 a1).bind λr1=>cond (!r1) (some ((false,p9),(1:Int))) ((qY N a0 a2).bind λr2=>cond (!r2) (some ((false,p9),(1:Int))) (ff a1 a2 a0 (false,p9) (false,p9) (0:Int)))
def qZ(N:Nat)(a0:ae)(a1:aD)(a2:au):Option (aJ×(Int)):=qZ.b N (qZ.l5 N N) a0 a1 a2
def ZE(N:Nat)(a0:ae)(a1:an)(a2:Int)(a3:bm):Option aJ:=
 cond (small (List.length dk+List.length a1.2.2.2.2.2.1)) (let v1:List ((Int)×((Int)×((Int)×((Int)×((Int)×((Int)×(Unit))))))):=dk++a1.2.2.2.2.2.1;cond (small (List.length v1+List.length a3)) ((y9 N a1.2.2.2.1 a2).bind λr3=>(g8 N (v1++a3) a2).bind λr4=>(qZ N a0 r3 r4).bind λr5=>some r5.1) (none)) (none)
def WC(N:Nat)(a0:ae)(a1:an)(a2:Int)(a3:Int):Option (an×(Int)):=
 (cN N a0 a1).bind λr1=>cond (!r1) (some ((cg,(cT,(bq,(bq,(de,(dk,())))))),(1:Int))) (cond (aT a3 1) (some ((cg,(cT,(bq,(bq,(de,(dk,())))))),(1:Int))) ((El N a1.2.1 a2).bind λr2=>cond (!r2.2) (some ((cg,(cT,(bq,(bq,(de,(dk,())))))),(3:Int))) ((Bc N a1.1 r2.1.2.1).bind λr3=>cond (!aN r3 1) (some ((cg,(cT,(bq,(bq,(de,(dk,())))))),(7:Int))) ((wF N a1.2.2.1 (5:Int) a2).bind λr4=>(jD N r4).bind λr5=>(jD N a3).bind λr6=>(RU N r5 r6).bind λr7=>(ZE N a0 a1 a2 dk).bind λr8=>(Lo N r7 r8).bind λr9=>cond (aT r9 0) (some ((cg,(cT,(bq,(bq,(de,(dk,())))))),(10:Int))) ((jD N a3).bind λkF=>(CI N (5:Int) a2 (1:Int) (0:Int) kF).bind λod=>(BG N a1 bq od).bind λpn=>some (pn.1,pn.2))))))
def Hr(N:Nat)(a0:aV)(a1:Int):Option (Int):=
 (Bc N a0.2.2.1.1 a1).bind λr1=>some r1
abbrev nX.jq:=Int→Int→aO→Int→Option (aO×(Int))
def nX.Dy(N:Nat)(fQ:nX.jq)(x1:Int)(x2:Int)(bb:aO)(aX:Int):Option (aO×(Int)):=
 cond (aT aX (List.length bb:Int)) (cond (aY aX (List.length bb)) (cond (aN ((List.getD bb aX.toNat aW).1) x1) (cond (aY aX (List.length bb)) (fQ x1 x2 (List.set bb aX.toNat ((List.getD bb aX.toNat aW).1,(((List.getD bb aX.toNat aW).2).1,((((List.getD bb aX.toNat aW).2).2).1,(x2,((((List.getD bb aX.toNat aW).2).2).2).2))))) (W .i64 (aX+1))) (none)) (fQ x1 x2 bb (W .i64 (aX+1)))) (none)) (some (bb,(0:Int)))
def nX.l8(N:Nat):Nat→nX.jq
 |0,_,_,_,_=>none
 |n+1,x1,x2,bb,aX=>nX.Dy N (nX.l8 N n) x1 x2 bb aX
def nX.b(N:Nat)(HQ:nX.jq)(a0:aO)(a1:Int)(a2:Int):Option (aO×(Int)):=
 (mu N a0).bind λr1=>cond (!r1) (some ([],(1:Int))) (cond (aT a2 0) (some ([],(1:Int))) (cond (aT 1000000000000 a2) (some ([],(1:Int))) ((oh N a0 a1).bind λr2=>cond (!r2.2) (some ([],(3:Int))) (cond (small (List.length cT+List.length a0)) (HQ a1 a2 (cT++a0) (0:Int)) (none)))))
def nX(N:Nat)(a0:aO)(a1:Int)(a2:Int):Option (aO×(Int)):=nX.b N (nX.l8 N N) a0 a1 a2
def adi(N:Nat)(a0:c7)(a1:Int):Option (aJ×(Int)):=
 (R4 N a0).bind λr1=>cond (!r1) (some ((false,p9),(1:Int))) ((Ek N a1).bind λr2=>cond (!r2) (some ((false,p9),(1:Int))) (let v3:Int:=W .i64 (a0.2.2.2.2.2.1-a1);cond (aN a0.2.2.2.1 2) (let v4:Int:=W .i64 (a1-a0.2.2.2.2.2.1);cond (aT v4 0) (some ((false,p9),(0:Int))) ((jD N a0.2.2.2.2.1).bind λr5=>(jD N v4).bind λr6=>(jE N r5 r6).bind λr7=>some (r7,(0:Int)))) (cond (aT v3 0) (some ((false,p9),(0:Int))) ((jD N a0.2.2.2.2.1).bind λr8=>(jD N v3).bind λr9=>(jE N r8 r9).bind λkF=>some (kF,(0:Int))))))
def ZF(N:Nat)(a0:ae)(a1:an)(a2:c7):Option (Int):=
 (cN N a0 a1).bind λr1=>cond (!r1) (some (1:Int)) ((R4 N a2).bind λr2=>cond (!r2) (some (1:Int)) ((El N a1.2.1 a2.2.1).bind λr3=>cond (!r3.2) (some (3:Int)) ((Bc N a1.1 r3.1.2.1).bind λr4=>cond (!aN r4 1) (some (7:Int)) (cond (cZ (List.length a0.1:Int) a2.2.2.1) (some (3:Int)) (cond (small (List.length dk+List.length a1.2.2.2.2.2.1)) (let v5:List ((Int)×((Int)×((Int)×((Int)×((Int)×((Int)×(Unit))))))):=dk++a1.2.2.2.2.2.1;cond (small (List.length v5+List.length ([a2]))) ((y9 N a1.2.2.2.1 a2.2.1).bind λr7=>(g8 N (v5++([a2])) a2.2.1).bind λr8=>(jm N a0 r7 r8 a2.2.2.1).bind λr9=>(jD N r3.1.2.2.2.1).bind λkF=>(Lo N r9.1 kF).bind λod=>cond (aT 0 od) (some (9:Int)) (cond (aY a2.2.2.1 (List.length a1.2.2.2.2.1)) ((adi N a2 (List.getD a1.2.2.2.2.1 a2.2.2.1.toNat (0:Int))).bind λpn=>(wF N a1.2.2.1 (5:Int) a2.2.1).bind λnU=>(jD N nU).bind λsU=>(RU N sU pn.1).bind λtN=>(ZE N a0 a1 a2.2.1 ([a2])).bind λyQ=>(Lo N tN yQ).bind λwR=>cond (aT wR 0) (some (10:Int)) (some (0:Int))) (none))) (none)) (none))))))
def WA(N:Nat)(a0:c7)(a1:c7):Option (Bool):=
 cond (!aN a0.2.2.2.2.2.1 a1.2.2.2.2.2.1) (some (p8 .bool (aT a1.2.2.2.2.2.1 a0.2.2.2.2.2.1) (aN a0.2.2.2.1 1))) (some (aT a0.1 a1.1))
abbrev dU.P6:=bm→Int→Int→bm→Int→Int→Option bm
abbrev dU.mI:=bm→Int→Int→bm→Int→Int→Option bm
abbrev dU.bO:=bm→Int→Int→bm→Int→Option bm
def dU.CG(N:Nat)(bQ:dU.bO)(x0:bm)(x1:Int)(x2:Int)(x7:bm)(x8:Int)(x9:Int):Option bm:=
 cond (kd 0 x9 (List.length x7:Int) (List.length x7:Int)) (let v9:List ((Int)×((Int)×((Int)×((Int)×((Int)×((Int)×(Unit))))))):=List.drop (0:Int).toNat (List.take x9.toNat x7);cond (small (List.length v9)) (cond (aY x8 (List.length x0)) (cond (small (List.length v9+List.length ([List.getD x0 x8.toNat eT]))) (let v10:List ((Int)×((Int)×((Int)×((Int)×((Int)×((Int)×(Unit))))))):=v9++([List.getD x0 x8.toNat eT]);cond (kd x9 (List.length x7:Int) (List.length x7:Int) (List.length x7:Int)) (let v11:List ((Int)×((Int)×((Int)×((Int)×((Int)×((Int)×(Unit))))))):=List.drop x9.toNat (List.take (List.length x7:Int).toNat x7);cond (small (List.length v10+List.length v11)) (bQ x0 x1 x2 (v10++v11) (W .i64 (x8+1))) (none)) (none)) (none)) (none)) (none)) (none)
def dU.Kl(N:Nat)(bQ:dU.bO)(x0:bm)(x1:Int)(x2:Int)(x7:bm)(x8:Int)(x9:Int):Option bm:=dU.CG N bQ x0 x1 x2 x7 x8 x9
def dU.xG(N:Nat)(DW:dU.P6)(bQ:dU.bO)(qz:dU.mI)(x0:bm)(x1:Int)(x2:Int)(x7:bm)(x8:Int)(x9:Int):Option bm:=
 cond (aT x9 (List.length x7:Int)) (cond (aY x9 (List.length x7)) (cond (aY x8 (List.length x0)) ((WA N (List.getD x7 x9.toNat eT) (List.getD x0 x8.toNat eT)).bind λr6=>cond (r6) (qz x0 x1 x2 x7 x8 (W .i64 (x9+1))) (DW x0 x1 x2 x7 x8 x9)) (none)) (none)) (DW x0 x1 x2 x7 x8 x9)
def dU.l9(N:Nat)(bQ:dU.bO):Nat→dU.mI
 |0,_,_,_,_,_,_=>none
 |n+1,x0,x1,x2,x7,x8,x9=>dU.xG N (dU.Kl N bQ) bQ (dU.l9 N bQ n) x0 x1 x2 x7 x8 x9
def dU.eA(N:Nat)(zN:dU.mI)(bQ:dU.bO)(x0:bm)(x1:Int)(x2:Int)(x7:bm)(x8:Int):Option bm:=
 cond (aT x8 (List.length x0:Int)) (cond (aY x8 (List.length x0)) (cond (!aN ((((List.getD x0 x8.toNat eT).2).2).1) x1) (bQ x0 x1 x2 x7 (W .i64 (x8+1))) (cond (aY x8 (List.length x0)) (cond (!aN (((((List.getD x0 x8.toNat eT).2).2).2).1) x2) (bQ x0 x1 x2 x7 (W .i64 (x8+1))) (zN x0 x1 x2 x7 x8 (0:Int))) (none))) (none)) (some x7)
def dU.l5(N:Nat):Nat→dU.bO
 |0,_,_,_,_,_=>none
 |n+1,x0,x1,x2,x7,x8=>dU.eA N (dU.l9 N (dU.l5 N n) N) (dU.l5 N n) x0 x1 x2 x7 x8
def dU.b(N:Nat)(ff:dU.bO)(a0:bm)(a1:Int)(a2:Int):Option bm:=
 (m0 N a0).bind λr1=>cond (!r1) (some ([])) (ff a0 a1 a2 ([]) (0:Int))
def dU(N:Nat)(a0:bm)(a1:Int)(a2:Int):Option bm:=dU.b N (dU.l5 N N) a0 a1 a2
abbrev cq.sQ:=bm→Int→bs→bm→Int→Option (bm×bs×(Int)×(Int))
abbrev cq.aqN:=bm→Int→bs→Option (bm×bs×(Int)×(Int))
abbrev cq.yc:=c7→bm→Int→bs→bm→Int→Int→Int→Option (bm×bs×(Int)×(Int))
abbrev cq.BN:=c7→bm→Int→bs→bm→Int→Int→iP→Option (bm×bs×(Int)×(Int))
abbrev cq.aaK:=c7→bm→Int→bs→bm→Int→Option (bm×bs×(Int)×(Int))
abbrev cq.e7:=c7→bm→Int→bs→bm→Int→Option (bm×bs×(Int)×(Int))
def cq.Ef(N:Nat)(sR:cq.sQ)(x8:bm)(x9:Int)(bb:bs)(eI:bm)(ei:Int):Option (bm×bs×(Int)×(Int)):=
 cond (aT ei (List.length x8:Int)) (cond (aY ei (List.length x8)) (cond (aT 0 ((((((List.getD x8 ei.toNat eT).2).2).2).2).1)) (cond (aY ei (List.length x8)) (cond (small (List.length eI+List.length ([List.getD x8 ei.toNat eT]))) (sR x8 x9 bb (eI++([List.getD x8 ei.toNat eT])) (W .i64 (ei+1))) (none)) (none)) (sR x8 x9 bb eI (W .i64 (ei+1)))) (none)) (some (eI,bb,x9,(0:Int)))
def cq.Ds(N:Nat):Nat→cq.sQ
 |0,_,_,_,_,_=>none
 |n+1,x8,x9,bb,eI,ei=>cq.Ef N (cq.Ds N n) x8 x9 bb eI ei
def cq.ads(N:Nat)(P2:cq.sQ)(x8:bm)(x9:Int)(bb:bs):Option (bm×bs×(Int)×(Int)):=
 P2 x8 x9 bb ([]) (0:Int)
def cq.j22(N:Nat)(x8:bm)(x9:Int)(bb:bs):Option (bm×bs×(Int)×(Int)):=cq.ads N (cq.Ds N N) x8 x9 bb
def cq.Et(N:Nat)(eO:cq.e7)(HS:cq.yc)(x3:c7)(x8:bm)(x9:Int)(bb:bs)(aX:bm)(bc:Int)(bU:Int)(dd:Int):Option (bm×bs×(Int)×(Int)):=
 cond (aT dd (List.length x8:Int)) (cond (aY dd (List.length x8)) (cond (aY bc (List.length aX)) (cond (aN ((List.getD x8 dd.toNat eT).1) ((List.getD aX bc.toNat eT).1)) (cond (aY dd (List.length x8)) (cond (aY dd (List.length x8)) (HS x3 (List.set x8 dd.toNat ((List.getD x8 dd.toNat eT).1,(((List.getD x8 dd.toNat eT).2).1,((((List.getD x8 dd.toNat eT).2).2).1,(((((List.getD x8 dd.toNat eT).2).2).2).1,((W .i64 (((((((List.getD x8 dd.toNat eT).2).2).2).2).1)-bU)),(((((List.getD x8 dd.toNat eT).2).2).2).2).2)))))) x9 bb aX bc bU (W .i64 (dd+1))) (none)) (none)) (HS x3 x8 x9 bb aX bc bU (W .i64 (dd+1)))) (none)) (none)) (eO x3 x8 x9 bb aX (W .i64 (bc+1)))
def cq.Ie(N:Nat)(eO:cq.e7):Nat→cq.yc
 |0,_,_,_,_,_,_,_,_=>none
 |n+1,x3,x8,x9,bb,aX,bc,bU,dd=>cq.Et N eO (cq.Ie N eO n) x3 x8 x9 bb aX bc bU dd
def cq.s0(N:Nat)(P7:cq.yc)(eO:cq.e7)(x3:c7)(x8:bm)(x9:Int)(bb:bs)(aX:bm)(bc:Int)(bU:Int)(ca:iP):Option (bm×bs×(Int)×(Int)):=
 cond (small (List.length bb+List.length ([ca]))) (P7 x3 x8 (W .i64 (x9-bU)) (bb++([ca])) aX bc bU (0:Int)) (none)
def cq.ze(N:Nat)(eO:cq.e7)(x3:c7)(x8:bm)(x9:Int)(bb:bs)(aX:bm)(bc:Int)(bU:Int)(ca:iP):Option (bm×bs×(Int)×(Int)):=cq.s0 N (cq.Ie N eO N) eO x3 x8 x9 bb aX bc bU ca
def cq.Mb(N:Nat)(qG:cq.BN)(eO:cq.e7)(x3:c7)(x8:bm)(x9:Int)(bb:bs)(aX:bm)(bc:Int):Option (bm×bs×(Int)×(Int)):=
 cond (aY bc (List.length aX)) (cond (aN (((List.getD aX bc.toNat eT).2).1) x3.2.1) (eO x3 x8 x9 bb aX (W .i64 (bc+1))) (cond (aY bc (List.length aX)) (let v14:Int:=mn x9 ((((((List.getD aX bc.toNat eT).2).2).2).2).1);cond (aY bc (List.length aX)) (cond (aY bc (List.length aX)) (cond (aN x3.2.2.2.1 2) (cond (aY bc (List.length aX)) (qG x3 x8 x9 bb aX bc v14 (((List.getD aX bc.toNat eT).2).1,(x3.2.1,(x3.2.2.1,(v14,(((((((List.getD aX bc.toNat eT).2).2).2).2).2).1,())))))) (none)) (qG x3 x8 x9 bb aX bc v14 (x3.2.1,(((List.getD aX bc.toNat eT).2).1,(x3.2.2.1,(v14,(((((((List.getD aX bc.toNat eT).2).2).2).2).2).1,()))))))) (none)) (none)) (none))) (none)
def cq.SJ(N:Nat)(eO:cq.e7)(x3:c7)(x8:bm)(x9:Int)(bb:bs)(aX:bm)(bc:Int):Option (bm×bs×(Int)×(Int)):=cq.Mb N (cq.ze N eO) eO x3 x8 x9 bb aX bc
def cq.p6(N:Nat)(P8:cq.aqN)(HT:cq.aaK)(eO:cq.e7)(x3:c7)(x8:bm)(x9:Int)(bb:bs)(aX:bm)(bc:Int):Option (bm×bs×(Int)×(Int)):=
 cond (aT bc (List.length aX:Int)) (cond (aT 0 x9) (cond (aN x3.2.2.2.1 1) (cond (aY bc (List.length aX)) (cond (aT x3.2.2.2.2.2.1 (((((((List.getD aX bc.toNat eT).2).2).2).2).2).1)) (P8 x8 x9 bb) (cond (aN x3.2.2.2.1 2) (cond (aY bc (List.length aX)) (cond (aT (((((((List.getD aX bc.toNat eT).2).2).2).2).2).1) x3.2.2.2.2.2.1) (P8 x8 x9 bb) (HT x3 x8 x9 bb aX bc)) (none)) (HT x3 x8 x9 bb aX bc))) (none)) (cond (aN x3.2.2.2.1 2) (cond (aY bc (List.length aX)) (cond (aT (((((((List.getD aX bc.toNat eT).2).2).2).2).2).1) x3.2.2.2.2.2.1) (P8 x8 x9 bb) (HT x3 x8 x9 bb aX bc)) (none)) (HT x3 x8 x9 bb aX bc))) (P8 x8 x9 bb)) (P8 x8 x9 bb)
def cq.l7(N:Nat):Nat→cq.e7
 |0,_,_,_,_,_,_=>none
 |n+1,x3,x8,x9,bb,aX,bc=>cq.p6 N (cq.j22 N) (cq.SJ N (cq.l7 N n)) (cq.l7 N n) x3 x8 x9 bb aX bc
def cq.b(N:Nat)(uj:cq.e7)(a0:bm)(a1:c7):Option (bm×bs×(Int)×(Int)):=
 (m0 N a0).bind λr1=>cond (!r1) (some ([],[],(0:Int),(1:Int))) ((R4 N a1).bind λr2=>cond (!r2) (some ([],[],(0:Int),(1:Int))) (cond (small (List.length dk+List.length a0)) ((dU N a0 a1.2.2.1 (W .i64 ((3:Int)-a1.2.2.2.1))).bind λr5=>uj a1 (dk++a0) a1.2.2.2.2.1 ([]) r5 (0:Int)) (none)))
def cq(N:Nat)(a0:bm)(a1:c7):Option (bm×bs×(Int)×(Int)):=cq.b N (cq.l7 N N) a0 a1
def Y9(N:Nat)(a0:iP):Option (Bool):=
 cond (cZ 0 a0.1) (cond (cZ a0.1 24) (cond (cZ 0 a0.2.1) (cond (cZ a0.2.1 24) (cond (!aN a0.1 a0.2.1) (cond (cZ 0 a0.2.2.1) (cond (aT a0.2.2.1 6) (cond (cZ 1 a0.2.2.2.1) (cond (cZ a0.2.2.2.1 1000000000) ((Ek N a0.2.2.2.2.1).bind λr1=>some r1) (some false)) (some false)) (some false)) (some false)) (some false)) (some false)) (some false)) (some false)) (some false)
def LD(N:Nat)(a0:Int):Option ((Int)×(Int)):=
 cond (aN a0 0) (some ((2:Int),(0:Int))) (some ((5:Int),a0))
def Sl(N:Nat)(a0:iP)(a1:Int):Option (bJ×(Int)):=
 (Y9 N a0).bind λr1=>cond (!r1) (some ([],(1:Int))) ((Ek N a1).bind λr2=>cond (!r2) (some ([],(1:Int))) ((jD N (W .i64 (a1-a0.2.2.2.2.1))).bind λr4=>(jD N a0.2.2.2.1).bind λr5=>(jE N r4 r5).bind λr6=>(Ol N r6).bind λr7=>cond (aN r7 0) (some ([],(0:Int))) ((LD N a0.1).bind λr8=>(LD N a0.2.1).bind λr9=>(Xm N r6).bind λkF=>some ([(r8.1,(r8.2,(r6,()))),(r9.1,(r9.2,(kF,())))],(0:Int)))))
abbrev gz.yd:=bs→ae→an→an→au→bJ→Int→Option (an×(Int))
abbrev gz.bX:=bs→ae→an→an→Int→Option (an×(Int))
def gz.zL(N:Nat)(BQ:gz.yd)(x2:bs)(x3:ae)(x4:an)(x6:an)(x9:au)(bb:bJ)(aX:Int):Option (an×(Int)):=
 cond (aT aX (List.length x2:Int)) (cond (aY aX (List.length x2)) ((Lv N x4 ((List.getD x2 aX.toNat gu).1)).bind λr6=>cond (!r6) (some ((cg,(cT,(bq,(bq,(de,(dk,())))))),(3:Int))) ((Lv N x4 (((List.getD x2 aX.toNat gu).2).1)).bind λr7=>cond (!r7) (some ((cg,(cT,(bq,(bq,(de,(dk,())))))),(3:Int))) (cond (cZ (List.length x3.1:Int) ((((List.getD x2 aX.toNat gu).2).2).1)) (some ((cg,(cT,(bq,(bq,(de,(dk,())))))),(3:Int))) (let v8:Int:=W .i64 (0-(((((List.getD x2 aX.toNat gu).2).2).2).1));cond (small (List.length x9+List.length ([((List.getD x2 aX.toNat gu).1,((((List.getD x2 aX.toNat gu).2).2).1,(((((List.getD x2 aX.toNat gu).2).2).2).1,()))),(((List.getD x2 aX.toNat gu).2).1,((((List.getD x2 aX.toNat gu).2).2).1,(v8,())))]))) (cond (aY ((((List.getD x2 aX.toNat gu).2).2).1) (List.length x4.2.2.2.2.1)) ((Sl N (List.getD x2 aX.toNat gu) (List.getD x4.2.2.2.2.1 ((((List.getD x2 aX.toNat gu).2).2).1).toNat (0:Int))).bind λkF=>cond (small (List.length bb+List.length kF.1)) (BQ x2 x3 x4 x6 (x9++([((List.getD x2 aX.toNat gu).1,((((List.getD x2 aX.toNat gu).2).2).1,(((((List.getD x2 aX.toNat gu).2).2).2).1,()))),(((List.getD x2 aX.toNat gu).2).1,((((List.getD x2 aX.toNat gu).2).2).1,(v8,())))])) (bb++kF.1) (W .i64 (aX+1))) (none)) (none)) (none))))) (none)) ((BG N x4 x9 bb).bind λnU=>some (nU.1,nU.2))
def gz.CE(N:Nat):Nat→gz.yd
 |0,_,_,_,_,_,_,_=>none
 |n+1,x2,x3,x4,x6,x9,bb,aX=>gz.zL N (gz.CE N n) x2 x3 x4 x6 x9 bb aX
def gz.eN(N:Nat)(P9:gz.yd)(cG:gz.bX)(x2:bs)(x3:ae)(x4:an)(x6:an)(x8:Int):Option (an×(Int)):=
 cond (aT x8 (List.length x2:Int)) (cond (aY x8 (List.length x2)) ((Y9 N (List.getD x2 x8.toNat gu)).bind λr3=>cond (!r3) (some ((cg,(cT,(bq,(bq,(de,(dk,())))))),(1:Int))) (cG x2 x3 x4 x6 (W .i64 (x8+1)))) (none)) (P9 x2 x3 x4 x6 ([]) ([]) (0:Int))
def gz.l4(N:Nat):Nat→gz.bX
 |0,_,_,_,_,_=>none
 |n+1,x2,x3,x4,x6,x8=>gz.eN N (gz.CE N N) (gz.l4 N n) x2 x3 x4 x6 x8
def gz.b(N:Nat)(fN:gz.bX)(a0:ae)(a1:an)(a2:bs):Option (an×(Int)):=
 (cN N a0 a1).bind λr1=>cond (!r1) (some ((cg,(cT,(bq,(bq,(de,(dk,())))))),(1:Int))) (cond (aT 200 (List.length a2:Int)) (some ((cg,(cT,(bq,(bq,(de,(dk,())))))),(1:Int))) (fN a2 a0 a1 (cg,(cT,(bq,(bq,(de,(dk,())))))) (0:Int)))
def gz(N:Nat)(a0:ae)(a1:an)(a2:bs):Option (an×(Int)):=gz.b N (gz.l4 N N) a0 a1 a2
abbrev jn.aaK:=ae→an→c7→an→bm→bs→Int→Option (an×bs×(Int)×(Int))
abbrev jn.S2:=ae→an→c7→an→Option (an×bs×(Int)×(Int))
def jn.Mb(N:Nat)(x3:ae)(x4:an)(x5:c7)(x6:an)(bc:bm)(bU:bs)(ca:Int):Option (an×bs×(Int)×(Int)):=
 (gz N x3 x4 bU).bind λr6=>cond (!aN r6.2 0) (some ((cg,(cT,(bq,(bq,(de,(dk,())))))),EF,(0:Int),r6.2)) (cond (aT 0 ca) (cond (small (List.length bc+List.length ([(x5.1,(x5.2.1,(x5.2.2.1,(x5.2.2.2.1,(ca,x5.2.2.2.2.2)))))]))) (some ((r6.1.1,(r6.1.2.1,(r6.1.2.2.1,(r6.1.2.2.2.1,(r6.1.2.2.2.2.1,((bc++([(x5.1,(x5.2.1,(x5.2.2.1,(x5.2.2.2.1,(ca,x5.2.2.2.2.2)))))])),r6.1.2.2.2.2.2.2)))))),bU,ca,(0:Int))) (none)) (some ((r6.1.1,(r6.1.2.1,(r6.1.2.2.1,(r6.1.2.2.2.1,(r6.1.2.2.2.2.1,(bc,r6.1.2.2.2.2.2.2)))))),bU,ca,(0:Int))))
def jn.SJ(N:Nat)(x3:ae)(x4:an)(x5:c7)(x6:an)(bc:bm)(bU:bs)(ca:Int):Option (an×bs×(Int)×(Int)):=jn.Mb N x3 x4 x5 x6 bc bU ca
def jn.Rr(N:Nat)(HT:jn.aaK)(x3:ae)(x4:an)(x5:c7)(x6:an):Option (an×bs×(Int)×(Int)):=
 (cq N x4.2.2.2.2.2.1 x5).bind λr4=>cond (aT 0 r4.2.2.1) (cond (aN (List.length r4.1:Int) 32) (some ((cg,(cT,(bq,(bq,(de,(dk,())))))),EF,(0:Int),(5:Int))) (HT x3 x4 x5 x6 r4.1 r4.2.1 r4.2.2.1)) (HT x3 x4 x5 x6 r4.1 r4.2.1 r4.2.2.1)
def jn.j7(N:Nat)(x3:ae)(x4:an)(x5:c7)(x6:an):Option (an×bs×(Int)×(Int)):=jn.Rr N (jn.SJ N) x3 x4 x5 x6
def jn.b(N:Nat)(CP:jn.S2)(a0:ae)(a1:an)(a2:c7):Option (an×bs×(Int)×(Int)):=
 (ZF N a0 a1 a2).bind λr1=>cond (!aN r1 0) (some ((cg,(cT,(bq,(bq,(de,(dk,())))))),EF,(0:Int),r1)) (cond (aT 0 (List.length a1.2.2.2.2.2.1:Int)) (let v2:Int:=W .i64 ((List.length a1.2.2.2.2.2.1:Int)-1);cond (aY v2 (List.length a1.2.2.2.2.2.1)) (cond (cZ a2.1 ((List.getD a1.2.2.2.2.2.1 v2.toNat eT).1)) (some ((cg,(cT,(bq,(bq,(de,(dk,())))))),EF,(0:Int),(1:Int))) (CP a0 a1 a2 (cg,(cT,(bq,(bq,(de,(dk,())))))))) (none)) (CP a0 a1 a2 (cg,(cT,(bq,(bq,(de,(dk,()))))))))
def jn(N:Nat)(a0:ae)(a1:an)(a2:c7):Option (an×bs×(Int)×(Int)):=jn.b N (jn.j7 N) a0 a1 a2
abbrev nZ.bO:=bm→Int→Int→bm→Int→Option (bm×(Int))
def nZ.eA(N:Nat)(bQ:nZ.bO)(x0:bm)(x1:Int)(x2:Int)(x8:bm)(x9:Int):Option (bm×(Int)):=
 cond (aT x9 (List.length x0:Int)) (cond (aY x9 (List.length x0)) (cond (!aN ((List.getD x0 x9.toNat eT).1) x2) (cond (aY x9 (List.length x0)) (cond (small (List.length x8+List.length ([List.getD x0 x9.toNat eT]))) (bQ x0 x1 x2 (x8++([List.getD x0 x9.toNat eT])) (W .i64 (x9+1))) (none)) (none)) (cond (aY x9 (List.length x0)) (cond (!aN (((List.getD x0 x9.toNat eT).2).1) x1) (cond (aY x9 (List.length x0)) (cond (small (List.length x8+List.length ([List.getD x0 x9.toNat eT]))) (bQ x0 x1 x2 (x8++([List.getD x0 x9.toNat eT])) (W .i64 (x9+1))) (none)) (none)) (bQ x0 x1 x2 x8 (W .i64 (x9+1)))) (none))) (none)) (cond (aN (List.length x8:Int) (List.length x0:Int)) (some ([],(3:Int))) (some (x8,(0:Int))))
def nZ.l5(N:Nat):Nat→nZ.bO
 |0,_,_,_,_,_=>none
 |n+1,x0,x1,x2,x8,x9=>nZ.eA N (nZ.l5 N n) x0 x1 x2 x8 x9
def nZ.b(N:Nat)(ff:nZ.bO)(a0:bm)(a1:Int)(a2:Int):Option (bm×(Int)):=
 (m0 N a0).bind λr1=>cond (!r1) (some ([],(1:Int))) (ff a0 a1 a2 ([]) (0:Int))
def nZ(N:Nat)(a0:bm)(a1:Int)(a2:Int):Option (bm×(Int)):=nZ.b N (nZ.l5 N N) a0 a1 a2
abbrev n0.iu:=au→Int→bJ→aJ→Int→Option (bJ×(Int))
def n0.tX(N:Nat)(iv:n0.iu)(x0:au)(x1:Int)(bb:bJ)(aX:aJ)(bc:Int):Option (bJ×(Int)):=
 cond (aT bc (List.length x0:Int)) (cond (aY bc (List.length x0)) (cond (!aN (((List.getD x0 bc.toNat a6).2).1) x1) (iv x0 x1 bb aX (W .i64 (bc+1))) ((Ol N aX).bind λr9=>cond (aN r9 0) (iv x0 x1 bb aX (W .i64 (bc+1))) (cond (aY bc (List.length x0)) ((LD N ((List.getD x0 bc.toNat a6).1)).bind λod=>cond (aY bc (List.length x0)) ((jD N ((((List.getD x0 bc.toNat a6).2).2).1)).bind λpn=>(jE N pn aX).bind λnU=>cond (small (List.length bb+List.length ([(od.1,(od.2,(nU,())))]))) (iv x0 x1 (bb++([(od.1,(od.2,(nU,())))])) aX (W .i64 (bc+1))) (none)) (none)) (none)))) (none)) (some (bb,(0:Int)))
def n0.l6(N:Nat):Nat→n0.iu
 |0,_,_,_,_,_=>none
 |n+1,x0,x1,bb,aX,bc=>n0.tX N (n0.l6 N n) x0 x1 bb aX bc
def n0.b(N:Nat)(wv:n0.iu)(a0:au)(a1:Int)(a2:Int)(a3:Int):Option (bJ×(Int)):=
 (zU N a0).bind λr1=>cond (!r1) (some ([],(1:Int))) ((Ek N a2).bind λr2=>cond (!r2) (some ([],(1:Int))) ((Ek N a3).bind λr3=>cond (!r3) (some ([],(1:Int))) ((jD N a3).bind λr4=>(jD N a2).bind λr5=>(RU N r4 r5).bind λr6=>wv a0 a1 ([]) r6 (0:Int))))
def n0(N:Nat)(a0:au)(a1:Int)(a2:Int)(a3:Int):Option (bJ×(Int)):=n0.b N (n0.l6 N N) a0 a1 a2 a3
def WB(N:Nat)(a0:ae)(a1:an)(a2:Int)(a3:Int):Option (an×bJ×(Int)):=
 (cN N a0 a1).bind λr1=>cond (!r1) (some ((cg,(cT,(bq,(bq,(de,(dk,())))))),([]:List ((Int)×((Int)×(((Bool)×((List (Int))×(Unit)))×(Unit))))),(1:Int))) ((Ek N a3).bind λr2=>cond (!r2) (some ((cg,(cT,(bq,(bq,(de,(dk,())))))),([]:List ((Int)×((Int)×(((Bool)×((List (Int))×(Unit)))×(Unit))))),(1:Int))) (cond (aT a2 0) (some ((cg,(cT,(bq,(bq,(de,(dk,())))))),([]:List ((Int)×((Int)×(((Bool)×((List (Int))×(Unit)))×(Unit))))),(3:Int))) (cond (cZ (List.length a0.1:Int) a2) (some ((cg,(cT,(bq,(bq,(de,(dk,())))))),([]:List ((Int)×((Int)×(((Bool)×((List (Int))×(Unit)))×(Unit))))),(3:Int))) (cond (aY a2 (List.length a1.2.2.2.2.1)) ((n0 N a1.2.2.2.1 a2 (List.getD a1.2.2.2.2.1 a2.toNat (0:Int)) a3).bind λr3=>(BG N a1 bq r3.1).bind λr4=>cond (!aN r4.2 0) (some ((cg,(cT,(bq,(bq,(de,(dk,())))))),([]:List ((Int)×((Int)×(((Bool)×((List (Int))×(Unit)))×(Unit))))),r4.2)) (cond (small (List.length de+List.length a1.2.2.2.2.1)) (let v5:List (Int):=de++a1.2.2.2.2.1;cond (aY a2 (List.length v5)) (some ((r4.1.1,(r4.1.2.1,(r4.1.2.2.1,(r4.1.2.2.2.1,((List.set v5 a2.toNat a3),r4.1.2.2.2.2.2))))),r3.1,(0:Int))) (none)) (none))) (none)))))
abbrev q3.cO:=aD→Int→Option (Bool)
def q3.fy(N:Nat)(dO:q3.cO)(x0:aD)(x3:Int):Option (Bool):=
 cond (aT x3 (List.length x0:Int)) (cond (aY x3 (List.length x0)) (cond (aT ((List.getD x0 x3.toNat cv).1) (1:Int)) (some false) (cond (aY x3 (List.length x0)) (cond (aT 24 ((List.getD x0 x3.toNat cv).1)) (some false) (cond (aY x3 (List.length x0)) (cond (aN (((List.getD x0 x3.toNat cv).2).1) (0:Int)) (some false) (cond (aT 0 x3) (cond (aY x3 (List.length x0)) (let v2:Int:=W .i64 (x3-1);cond (aY v2 (List.length x0)) (cond (cZ ((List.getD x0 x3.toNat cv).1) ((List.getD x0 v2.toNat cv).1)) (some false) (dO x0 (W .i64 (x3+1)))) (none)) (none)) (dO x0 (W .i64 (x3+1))))) (none))) (none))) (none)) (some true)
def q3.l2(N:Nat):Nat→q3.cO
 |0,_,_=>none
 |n+1,x0,x3=>q3.fy N (q3.l2 N n) x0 x3
def q3.b(N:Nat)(gG:q3.cO)(a0:aD):Option (Bool):=
 gG a0 (0:Int)
def q3(N:Nat)(a0:aD):Option (Bool):=q3.b N (q3.l2 N N) a0
abbrev e8.ye:=aD→bJ→aD→Int→aJ→Int→Option (aD×(Int))
abbrev e8.mI:=aD→bJ→aD→Int→aJ→Int→Option (aD×(Int))
abbrev e8.bO:=aD→bJ→aD→Int→Option (aD×(Int))
def e8.G0(N:Nat)(bQ:e8.bO)(DX:e8.ye)(x0:aD)(x1:bJ)(x6:aD)(x7:Int)(x8:aJ)(bb:Int):Option (aD×(Int)):=
 cond (aT bb (List.length x1:Int)) (cond (aY bb (List.length x1)) (cond (aN ((List.getD x1 bb.toNat ((0:Int),((0:Int),((false,p9),())))).1) (5:Int)) (cond (aY bb (List.length x1)) (cond (aN (((List.getD x1 bb.toNat ((0:Int),((0:Int),((false,p9),())))).2).1) x7) (cond (aY bb (List.length x1)) ((zT N x8 ((((List.getD x1 bb.toNat ((0:Int),((0:Int),((false,p9),())))).2).2).1)).bind λr8=>DX x0 x1 x6 x7 r8 (W .i64 (bb+1))) (none)) (DX x0 x1 x6 x7 x8 (W .i64 (bb+1)))) (none)) (DX x0 x1 x6 x7 x8 (W .i64 (bb+1)))) (none)) ((xD N x8).bind λpn=>cond (!pn.2) (some ([],(2:Int))) (cond (!aN pn.1 0) (cond (small (List.length x6+List.length ([(x7,(pn.1,()))]))) (bQ x0 x1 (x6++([(x7,(pn.1,()))])) (W .i64 (x7+1))) (none)) (bQ x0 x1 x6 (W .i64 (x7+1)))))
def e8.JV(N:Nat)(bQ:e8.bO):Nat→e8.ye
 |0,_,_,_,_,_,_=>none
 |n+1,x0,x1,x6,x7,x8,bb=>e8.G0 N bQ (e8.JV N bQ n) x0 x1 x6 x7 x8 bb
def e8.xG(N:Nat)(Qa:e8.ye)(bQ:e8.bO)(qz:e8.mI)(x0:aD)(x1:bJ)(x6:aD)(x7:Int)(x8:aJ)(x9:Int):Option (aD×(Int)):=
 cond (aT x9 (List.length x0:Int)) (cond (aY x9 (List.length x0)) (cond (aN ((List.getD x0 x9.toNat cv).1) x7) (cond (aY x9 (List.length x0)) ((jD N (((List.getD x0 x9.toNat cv).2).1)).bind λr4=>qz x0 x1 x6 x7 r4 (W .i64 (x9+1))) (none)) (qz x0 x1 x6 x7 x8 (W .i64 (x9+1)))) (none)) (Qa x0 x1 x6 x7 x8 (0:Int))
def e8.l9(N:Nat)(bQ:e8.bO):Nat→e8.mI
 |0,_,_,_,_,_,_=>none
 |n+1,x0,x1,x6,x7,x8,x9=>e8.xG N (e8.JV N bQ N) bQ (e8.l9 N bQ n) x0 x1 x6 x7 x8 x9
def e8.eA(N:Nat)(zN:e8.mI)(bQ:e8.bO)(x0:aD)(x1:bJ)(x6:aD)(x7:Int):Option (aD×(Int)):=
 cond (cZ x7 24) (zN x0 x1 x6 x7 (false,p9) (0:Int)) (some (x6,(0:Int)))
def e8.l5(N:Nat):Nat→e8.bO
 |0,_,_,_,_=>none
 |n+1,x0,x1,x6,x7=>e8.eA N (e8.l9 N (e8.l5 N n) N) (e8.l5 N n) x0 x1 x6 x7
def e8.b(N:Nat)(ff:e8.bO)(a0:aD)(a1:bJ):Option (aD×(Int)):=
 (q3 N a0).bind λr1=>cond (!r1) (some ([],(1:Int))) (ff a0 a1 ([]) (1:Int))
def e8(N:Nat)(a0:aD)(a1:bJ):Option (aD×(Int)):=e8.b N (e8.l5 N N) a0 a1
def WQ(N:Nat)(a0:aV)(a1:Int):Option ((Int)×(Bool)):=
 (jD N a0.1).bind λr1=>(jD N a1).bind λr2=>(zT N r1 r2).bind λr3=>(xD N r3).bind λr4=>some (r4.1,r4.2)
def Wy(N:Nat)(a0:Int)(a1:Int):Option ((Int)×(Bool)):=
 cond (aN a0 0) (cond (aN a1 1) (some ((1:Int),true)) (cond (aN a0 1) (cond (aN a1 11) (some ((2:Int),true)) (cond (aN a0 2) (cond (aN a1 12) (some ((1:Int),true)) (cond (aN a0 2) (cond (aN a1 13) (some ((3:Int),true)) (cond (aN a0 3) (cond (aN a1 21) (some ((4:Int),true)) (some ((0:Int),false))) (some ((0:Int),false)))) (cond (aN a0 3) (cond (aN a1 21) (some ((4:Int),true)) (some ((0:Int),false))) (some ((0:Int),false))))) (cond (aN a0 2) (cond (aN a1 13) (some ((3:Int),true)) (cond (aN a0 3) (cond (aN a1 21) (some ((4:Int),true)) (some ((0:Int),false))) (some ((0:Int),false)))) (cond (aN a0 3) (cond (aN a1 21) (some ((4:Int),true)) (some ((0:Int),false))) (some ((0:Int),false)))))) (cond (aN a0 2) (cond (aN a1 12) (some ((1:Int),true)) (cond (aN a0 2) (cond (aN a1 13) (some ((3:Int),true)) (cond (aN a0 3) (cond (aN a1 21) (some ((4:Int),true)) (some ((0:Int),false))) (some ((0:Int),false)))) (cond (aN a0 3) (cond (aN a1 21) (some ((4:Int),true)) (some ((0:Int),false))) (some ((0:Int),false))))) (cond (aN a0 2) (cond (aN a1 13) (some ((3:Int),true)) (cond (aN a0 3) (cond (aN a1 21) (some ((4:Int),true)) (some ((0:Int),false))) (some ((0:Int),false)))) (cond (aN a0 3) (cond (aN a1 21) (some ((4:Int),true)) (some ((0:Int),false))) (some ((0:Int),false))))))) (cond (aN a0 1) (cond (aN a1 11) (some ((2:Int),true)) (cond (aN a0 2) (cond (aN a1 12) (some ((1:Int),true)) (cond (aN a0 2) (cond (aN a1 13) (some ((3:Int),true)) (cond (aN a0 3) (cond (aN a1 21) (some ((4:Int),true)) (some ((0:Int),false))) (some ((0:Int),false)))) (cond (aN a0 3) (cond (aN a1 21) (some ((4:Int),true)) (some ((0:Int),false))) (some ((0:Int),false))))) (cond (aN a0 2) (cond (aN a1 13) (some ((3:Int),true)) (cond (aN a0 3) (cond (aN a1 21) (some ((4:Int),true)) (some ((0:Int),false))) (some ((0:Int),false)))) (cond (aN a0 3) (cond (aN a1 21) (some ((4:Int),true)) (some ((0:Int),false))) (some ((0:Int),false)))))) (cond (aN a0 2) (cond (aN a1 12) (some ((1:Int),true)) (cond (aN a0 2) (cond (aN a1 13) (some ((3:Int),true)) (cond (aN a0 3) (cond (aN a1 21) (some ((4:Int),true)) (some ((0:Int),false))) (some ((0:Int),false)))) (cond (aN a0 3) (cond (aN a1 21) (some ((4:Int),true)) (some ((0:Int),false))) (some ((0:Int),false))))) (cond (aN a0 2) (cond (aN a1 13) (some ((3:Int),true)) (cond (aN a0 3) (cond (aN a1 21) (some ((4:Int),true)) (some ((0:Int),false))) (some ((0:Int),false)))) (cond (aN a0 3) (cond (aN a1 21) (some ((4:Int),true)) (some ((0:Int),false))) (some ((0:Int),false))))))
abbrev lV.yd:=Int→Int→aD→Int→Option (aD×(Int))
def lV.zL(N:Nat)(BQ:lV.yd)(x1:Int)(x9:Int)(aX:aD)(bc:Int):Option (aD×(Int)):=
 cond (aT bc (List.length aX:Int)) (cond (aY bc (List.length aX)) (cond (aN ((List.getD aX bc.toNat cv).1) x1) (cond (aY bc (List.length aX)) (BQ x1 x9 (List.set aX bc.toNat ((List.getD aX bc.toNat cv).1,(x9,((List.getD aX bc.toNat cv).2).2))) (W .i64 (bc+1))) (none)) (BQ x1 x9 aX (W .i64 (bc+1)))) (none)) (some (aX,(0:Int)))
def lV.CE(N:Nat):Nat→lV.yd
 |0,_,_,_,_=>none
 |n+1,x1,x9,aX,bc=>lV.zL N (lV.CE N n) x1 x9 aX bc
def lV.b(N:Nat)(P9:lV.yd)(a0:aD)(a1:Int)(a2:Int):Option (aD×(Int)):=
 (oe N a0).bind λr1=>cond (!r1) (some ([],(1:Int))) ((m4 N a0 a1).bind λr2=>cond (aN r2 0) (some ([],(3:Int))) ((Wy N r2 a2).bind λr3=>cond (!r3.2) (some ([],(8:Int))) (cond (small (List.length cg+List.length a0)) (P9 a1 r3.1 (cg++a0) (0:Int)) (none))))
def lV(N:Nat)(a0:aD)(a1:Int)(a2:Int):Option (aD×(Int)):=lV.b N (lV.CE N N) a0 a1 a2
abbrev sG.bO:=aO→Int→(List (Int))→Int→Option (List (Int))
def sG.eA(N:Nat)(bQ:sG.bO)(x0:aO)(x1:Int)(x5:List (Int))(x6:Int):Option (List (Int)):=
 cond (aT x6 (List.length x0:Int)) (cond (aY x6 (List.length x0)) (cond (aN (((List.getD x0 x6.toNat aW).2).1) x1) (cond (aY x6 (List.length x0)) (cond (small (List.length x5+List.length ([(List.getD x0 x6.toNat aW).1]))) (bQ x0 x1 (x5++([(List.getD x0 x6.toNat aW).1])) (W .i64 (x6+1))) (none)) (none)) (bQ x0 x1 x5 (W .i64 (x6+1)))) (none)) (some x5)
def sG.l5(N:Nat):Nat→sG.bO
 |0,_,_,_,_=>none
 |n+1,x0,x1,x5,x6=>sG.eA N (sG.l5 N n) x0 x1 x5 x6
def sG.b(N:Nat)(ff:sG.bO)(a0:aO)(a1:Int):Option (List (Int)):=
 (mu N a0).bind λr1=>cond (!r1) (some ([])) (ff a0 a1 ([]) (0:Int))
def sG(N:Nat)(a0:aO)(a1:Int):Option (List (Int)):=sG.b N (sG.l5 N N) a0 a1
abbrev fP.mI:=bm→(List (Int))→bm→Int→Bool→Int→Option bm
abbrev fP.bO:=bm→(List (Int))→bm→Int→Option bm
def fP.xG(N:Nat)(bQ:fP.bO)(qz:fP.mI)(x0:bm)(x1:List (Int))(x5:bm)(x6:Int)(x7:Bool)(x8:Int):Option bm:=
 cond (aT x8 (List.length x1:Int)) (cond (x7) (qz x0 x1 x5 x6 true (W .i64 (x8+1))) (cond (aY x8 (List.length x1)) (cond (aY x6 (List.length x0)) (qz x0 x1 x5 x6 (aN (List.getD x1 x8.toNat (0:Int)) (((List.getD x0 x6.toNat eT).2).1)) (W .i64 (x8+1))) (none)) (none))) (cond (!x7) (cond (aY x6 (List.length x0)) (cond (small (List.length x5+List.length ([List.getD x0 x6.toNat eT]))) (bQ x0 x1 (x5++([List.getD x0 x6.toNat eT])) (W .i64 (x6+1))) (none)) (none)) (bQ x0 x1 x5 (W .i64 (x6+1))))
def fP.l9(N:Nat)(bQ:fP.bO):Nat→fP.mI
 |0,_,_,_,_,_,_=>none
 |n+1,x0,x1,x5,x6,x7,x8=>fP.xG N bQ (fP.l9 N bQ n) x0 x1 x5 x6 x7 x8
def fP.eA(N:Nat)(zN:fP.mI)(bQ:fP.bO)(x0:bm)(x1:List (Int))(x5:bm)(x6:Int):Option bm:=
 cond (aT x6 (List.length x0:Int)) (zN x0 x1 x5 x6 false (0:Int)) (some x5)
def fP.l5(N:Nat):Nat→fP.bO
 |0,_,_,_,_=>none
 |n+1,x0,x1,x5,x6=>fP.eA N (fP.l9 N (fP.l5 N n) N) (fP.l5 N n) x0 x1 x5 x6
def fP.b(N:Nat)(ff:fP.bO)(a0:bm)(a1:List (Int)):Option bm:=
 (m0 N a0).bind λr1=>cond (!r1) (some ([])) (ff a0 a1 ([]) (0:Int))
def fP(N:Nat)(a0:bm)(a1:List (Int)):Option bm:=fP.b N (fP.l5 N N) a0 a1
def L9(N:Nat)(a0:ae)(a1:an)(a2:Int):Option (an×(Int)):=
 (cN N a0 a1).bind λr1=>cond (!r1) (some ((cg,(cT,(bq,(bq,(de,(dk,())))))),(1:Int))) ((Bc N a1.1 a2).bind λr2=>cond (aN r2 0) (some ((cg,(cT,(bq,(bq,(de,(dk,())))))),(3:Int))) ((sG N a1.2.1 a2).bind λr3=>(fP N a1.2.2.2.2.2.1 r3).bind λr4=>some ((a1.1,(a1.2.1,(a1.2.2.1,(a1.2.2.2.1,(a1.2.2.2.2.1,(r4,a1.2.2.2.2.2.2)))))),(0:Int))))
def YN(N:Nat)(a0:bT):Option (Bool):=
 cond (cZ 1 a0.1) (cond (cZ a0.1 1099511627776) (cond (cZ 1 a0.2.1) (cond (cZ a0.2.1 1099511627776) (cond (cZ 1 a0.2.2.1) (cond (cZ a0.2.2.1 12) (cond (cZ (-1152921504606846976) a0.2.2.2.1) (some (cZ a0.2.2.2.1 1152921504606846976)) (some false)) (some false)) (some false)) (some false)) (some false)) (some false)) (some false)
abbrev eQ.mI:=aO→Int→Int→Option (Bool)
abbrev eQ.aaH:=aO→Int→Option (Bool)
abbrev eQ.bX:=aO→Int→Option (Bool)
def eQ.xG(N:Nat)(cG:eQ.bX)(qz:eQ.mI)(x0:aO)(x3:Int)(x4:Int):Option (Bool):=
 cond (aT x4 x3) (cond (aY x4 (List.length x0)) (cond (aY x3 (List.length x0)) (cond (aN ((((List.getD x0 x4.toNat aW).2).2).1) ((((List.getD x0 x3.toNat aW).2).2).1)) (cond (aY x4 (List.length x0)) (cond (aY x3 (List.length x0)) (cond (aN (((List.getD x0 x4.toNat aW).2).1) (((List.getD x0 x3.toNat aW).2).1)) (some false) (qz x0 x3 (W .i64 (x4+1)))) (none)) (none)) (qz x0 x3 (W .i64 (x4+1)))) (none)) (none)) (cG x0 (W .i64 (x3+1)))
def eQ.l9(N:Nat)(cG:eQ.bX):Nat→eQ.mI
 |0,_,_,_=>none
 |n+1,x0,x3,x4=>eQ.xG N cG (eQ.l9 N cG n) x0 x3 x4
def eQ.YG(N:Nat)(zN:eQ.mI)(cG:eQ.bX)(x0:aO)(x3:Int):Option (Bool):=
 zN x0 x3 (0:Int)
def eQ.j8(N:Nat)(cG:eQ.bX)(x0:aO)(x3:Int):Option (Bool):=eQ.YG N (eQ.l9 N cG N) cG x0 x3
def eQ.eN(N:Nat)(P5:eQ.aaH)(cG:eQ.bX)(x0:aO)(x3:Int):Option (Bool):=
 cond (aT x3 (List.length x0:Int)) (cond (aY x3 (List.length x0)) ((YN N (List.getD x0 x3.toNat aW)).bind λr2=>cond (!r2) (some false) (cond (aT 0 x3) (cond (aY x3 (List.length x0)) (let v3:Int:=W .i64 (x3-1);cond (aY v3 (List.length x0)) (cond (cZ ((List.getD x0 x3.toNat aW).1) ((List.getD x0 v3.toNat aW).1)) (some false) (P5 x0 x3)) (none)) (none)) (P5 x0 x3))) (none)) (some true)
def eQ.l4(N:Nat):Nat→eQ.bX
 |0,_,_=>none
 |n+1,x0,x3=>eQ.eN N (eQ.j8 N (eQ.l4 N n)) (eQ.l4 N n) x0 x3
def eQ.b(N:Nat)(fN:eQ.bX)(a0:aO):Option (Bool):=
 cond (aT 40 (List.length a0:Int)) (some false) (fN a0 (0:Int))
def eQ(N:Nat)(a0:aO):Option (Bool):=eQ.b N (eQ.l4 N N) a0
abbrev pX.bO:=aO→Int→aO→Int→Option aO
def pX.eA(N:Nat)(bQ:pX.bO)(x0:aO)(x1:Int)(x5:aO)(x6:Int):Option aO:=
 cond (aT x6 (List.length x0:Int)) (cond (aY x6 (List.length x0)) (cond (!aN ((((List.getD x0 x6.toNat aW).2).2).1) x1) (cond (aY x6 (List.length x0)) (cond (small (List.length x5+List.length ([List.getD x0 x6.toNat aW]))) (bQ x0 x1 (x5++([List.getD x0 x6.toNat aW])) (W .i64 (x6+1))) (none)) (none)) (bQ x0 x1 x5 (W .i64 (x6+1)))) (none)) (some x5)
def pX.l5(N:Nat):Nat→pX.bO
 |0,_,_,_,_=>none
 |n+1,x0,x1,x5,x6=>pX.eA N (pX.l5 N n) x0 x1 x5 x6
def pX.b(N:Nat)(ff:pX.bO)(a0:aO)(a1:Int):Option aO:=
 (eQ N a0).bind λr1=>cond (!r1) (some ([])) (ff a0 a1 ([]) (0:Int))
def pX(N:Nat)(a0:aO)(a1:Int):Option aO:=pX.b N (pX.l5 N N) a0 a1
def adF(N:Nat)(a0:aV)(a1:Int):Option (Bool):=
 cond (aN a1 14) (cond (aN a0.2.2.2.1.2.1 1) (some (aT a0.1 a0.2.2.2.1.2.2.1)) (some false)) (cond (aN a1 15) (cond (aN a0.2.2.2.1.2.1 1) (some (cZ a0.2.2.2.1.2.2.1 a0.1)) (some false)) (cond (aN a1 19) (cond (aN a0.2.2.2.1.2.1 3) (some (aT a0.1 a0.2.2.2.1.2.2.1)) (some false)) (cond (aN a1 20) (cond (aN a0.2.2.2.1.2.1 3) (some (cZ a0.2.2.2.1.2.2.1 a0.1)) (some false)) (some (aN a0.2.2.2.1.2.1 2)))))
def Mc(N:Nat)(a0:an)(a1:Int):Option (Int):=
 (Bc N a0.1 a1).bind λr1=>some r1
abbrev qx.bO:=aD→Bool→ae→aJ→aJ→Int→Option (aJ×(Int))
def qx.eA(N:Nat)(bQ:qx.bO)(x1:aD)(x2:Bool)(x3:ae)(x6:aJ)(x8:aJ)(x9:Int):Option (aJ×(Int)):=
 cond (aT x9 (List.length x1:Int)) (cond (aY x9 (List.length x1)) (cond (aY ((List.getD x1 x9.toNat cv).1) (List.length x3.1)) (cond (x2) (cond (aY x9 (List.length x1)) (cond (aY ((List.getD x1 x9.toNat cv).1) (List.length x3.1)) (cond (aY x9 (List.length x1)) ((jD N (((List.getD x1 x9.toNat cv).2).1)).bind λr3=>(Xn N r3).bind λr4=>(jD N (((((List.getD x3.1 ((List.getD x1 x9.toNat cv).1).toNat aW).2).2).2).1)).bind λr5=>(jE N r4 r5).bind λr6=>(zT N x8 r6).bind λr7=>bQ x1 x2 x3 x6 r7 (W .i64 (x9+1))) (none)) (none)) (none)) (cond (aY x9 (List.length x1)) ((jD N (((List.getD x1 x9.toNat cv).2).1)).bind λr9=>(Xn N r9).bind λkF=>(jD N ((((List.getD x3.1 ((List.getD x1 x9.toNat cv).1).toNat aW).2).2).1)).bind λod=>(jE N kF od).bind λpn=>(zT N x8 pn).bind λnU=>bQ x1 x2 x3 x6 nU (W .i64 (x9+1))) (none))) (none)) (none)) (some (x8,(0:Int)))
def qx.l5(N:Nat):Nat→qx.bO
 |0,_,_,_,_,_,_=>none
 |n+1,x1,x2,x3,x6,x8,x9=>qx.eA N (qx.l5 N n) x1 x2 x3 x6 x8 x9
def qx.b(N:Nat)(ff:qx.bO)(a0:ae)(a1:aD)(a2:Bool):Option (aJ×(Int)):=
 (nQ N a0 a1).bind λr1=>cond (!r1) (some ((false,p9),(1:Int))) (ff a1 a2 a0 (false,p9) (false,p9) (0:Int))
def qx(N:Nat)(a0:ae)(a1:aD)(a2:Bool):Option (aJ×(Int)):=qx.b N (qx.l5 N N) a0 a1 a2
def akO(N:Nat)(a0:ae)(a1:aD):Option (aJ×(Int)):=
 (qx N a0 a1 false).bind λr1=>some (r1.1,r1.2)
def SK(N:Nat)(a0:an)(a1:Int):Option (Int):=
 (wF N a0.2.2.1 (5:Int) a1).bind λr1=>some r1
def adt(N:Nat)(a0:ae)(a1:an)(a2:Int)(a3:Int)(a4:Int):Option (Int):=
 (cN N a0 a1).bind λr1=>cond (!r1) (some (1:Int)) ((El N a1.2.1 a4).bind λr2=>cond (!r2.2) (some (3:Int)) ((Mc N a1 a2).bind λr3=>cond (aN r3 0) (some (3:Int)) ((Mc N a1 a3).bind λr4=>cond (aN r4 0) (some (3:Int)) (cond (!aN r2.1.2.1 a2) (some (8:Int)) (cond (!aN r2.1.2.2.1 2) (some (8:Int)) ((Mc N a1 a3).bind λr5=>cond (!aN r5 1) (some (7:Int)) ((y9 N a1.2.2.2.1 a4).bind λr6=>(akO N a0 r6).bind λr7=>(SK N a1 a4).bind λr8=>(jD N r8).bind λr9=>(Lo N r9 r7.1).bind λkF=>cond (aT kF 0) (some (10:Int)) (some (0:Int)))))))))
abbrev nY.gm:=Int→Int→aO→Int→Option (aO×(Int))
def nY.mF(N:Nat)(iW:nY.gm)(x2:Int)(x3:Int)(bU:aO)(ca:Int):Option (aO×(Int)):=
 cond (aT ca (List.length bU:Int)) (cond (aY ca (List.length bU)) (cond (aN ((List.getD bU ca.toNat aW).1) x2) (cond (aY ca (List.length bU)) (iW x2 x3 (List.set bU ca.toNat ((List.getD bU ca.toNat aW).1,(x3,((List.getD bU ca.toNat aW).2).2))) (W .i64 (ca+1))) (none)) (iW x2 x3 bU (W .i64 (ca+1)))) (none)) (some (bU,(0:Int)))
def nY.oi(N:Nat):Nat→nY.gm
 |0,_,_,_,_=>none
 |n+1,x2,x3,bU,ca=>nY.mF N (nY.oi N n) x2 x3 bU ca
def nY.b(N:Nat)(vk:nY.gm)(a0:aD)(a1:aO)(a2:Int)(a3:Int):Option (aO×(Int)):=
 (oH N a0 a1).bind λr1=>cond (!r1) (some ([],(1:Int))) ((oh N a1 a2).bind λr2=>(m4 N a0 a3).bind λr3=>cond (!r2.2) (some ([],(3:Int))) (cond (aN r3 0) (some ([],(3:Int))) (cond (!aN r2.1.2.2.1 2) (some ([],(8:Int))) (cond (!aN r3 1) (some ([],(7:Int))) (cond (small (List.length cT+List.length a1)) (vk a2 a3 (cT++a1) (0:Int)) (none))))))
def nY(N:Nat)(a0:aD)(a1:aO)(a2:Int)(a3:Int):Option (aO×(Int)):=nY.b N (nY.oi N N) a0 a1 a2 a3
def WD(N:Nat)(a0:ae)(a1:an)(a2:Int)(a3:Int)(a4:Int):Option (an×(Int)):=
 (adt N a0 a1 a2 a3 a4).bind λr1=>cond (!aN r1 0) (some ((cg,(cT,(bq,(bq,(de,(dk,())))))),r1)) ((nY N a1.1 a1.2.1 a4 a3).bind λr2=>cond (!aN r2.2 0) (some ((cg,(cT,(bq,(bq,(de,(dk,())))))),r2.2)) (some ((a1.1,(r2.1,a1.2.2)),(0:Int))))
def ZY(N:Nat)(a0:ae)(a1:aD):Option (aJ×(Int)):=
 (qx N a0 a1 true).bind λr1=>some (r1.1,r1.2)
def adC(N:Nat)(a0:ae)(a1:an)(a2:Int):Option ((Int)×(Int)):=
 (cN N a0 a1).bind λr1=>cond (!r1) (some ((0:Int),(1:Int))) ((El N a1.2.1 a2).bind λr2=>cond (!r2.2) (some ((0:Int),(3:Int))) ((y9 N a1.2.2.2.1 a2).bind λr3=>(ZY N a0 r3).bind λr4=>(SK N a1 a2).bind λr5=>cond (cZ r5 0) (some ((0:Int),(0:Int))) ((xD N r4.1).bind λr6=>cond (r6.2) (cond (aT r6.1 r5) (some (r6.1,(0:Int))) (some (r5,(0:Int)))) (some (r5,(0:Int))))))
abbrev m6.bO:=au→Int→Int→au→Int→Option au
def m6.eA(N:Nat)(bQ:m6.bO)(x0:au)(x1:Int)(x2:Int)(x7:au)(x8:Int):Option au:=
 cond (aT x8 (List.length x0:Int)) (cond (aY x8 (List.length x0)) (cond (aN ((List.getD x0 x8.toNat a6).1) x1) (cond (aY x8 (List.length x0)) (cond (aY x8 (List.length x0)) (let v3:Int:=W .i64 (0-((((List.getD x0 x8.toNat a6).2).2).1));cond (aY x8 (List.length x0)) (cond (aY x8 (List.length x0)) (cond (small (List.length x7+List.length ([(x1,(((List.getD x0 x8.toNat a6).2).1,(v3,()))),(x2,(((List.getD x0 x8.toNat a6).2).1,((((List.getD x0 x8.toNat a6).2).2).1,())))]))) (bQ x0 x1 x2 (x7++([(x1,(((List.getD x0 x8.toNat a6).2).1,(v3,()))),(x2,(((List.getD x0 x8.toNat a6).2).1,((((List.getD x0 x8.toNat a6).2).2).1,())))])) (W .i64 (x8+1))) (none)) (none)) (none)) (none)) (none)) (bQ x0 x1 x2 x7 (W .i64 (x8+1)))) (none)) (some x7)
def m6.l5(N:Nat):Nat→m6.bO
 |0,_,_,_,_,_=>none
 |n+1,x0,x1,x2,x7,x8=>m6.eA N (m6.l5 N n) x0 x1 x2 x7 x8
def m6.b(N:Nat)(ff:m6.bO)(a0:au)(a1:Int)(a2:Int):Option au:=
 (zU N a0).bind λr1=>cond (!r1) (some ([])) (cond (aN a1 a2) (some ([])) (cond (aT a1 0) (some ([])) (cond (aT 24 a1) (some ([])) (cond (aT a2 0) (some ([])) (cond (aT 24 a2) (some ([])) (ff a0 a1 a2 ([]) (0:Int)))))))
def m6(N:Nat)(a0:au)(a1:Int)(a2:Int):Option au:=m6.b N (m6.l5 N N) a0 a1 a2
abbrev gA.BN:=Int→ae→an→an→au→bJ→Int→bT→Option (an×(Int))
abbrev gA.jq:=Int→ae→an→an→au→bJ→Int→Option (an×(Int))
def gA.s0(N:Nat)(fQ:gA.jq)(x2:Int)(x3:ae)(x4:an)(x6:an)(x8:au)(x9:bJ)(bb:Int)(aX:bT):Option (an×(Int)):=
 (SK N x4 aX.1).bind λkF=>cond (aT kF 0) ((jD N kF).bind λod=>(Xm N od).bind λpn=>(CI N (2:Int) (0:Int) (5:Int) aX.1 pn).bind λnU=>cond (small (List.length x9+List.length nU)) ((m6 N x4.2.2.2.1 aX.1 (0:Int)).bind λtN=>cond (small (List.length x8+List.length tN)) (fQ x2 x3 x4 x6 (x8++tN) (x9++nU) (W .i64 (bb+1))) (none)) (none)) ((m6 N x4.2.2.2.1 aX.1 (0:Int)).bind λBW=>cond (small (List.length x8+List.length BW)) (fQ x2 x3 x4 x6 (x8++BW) x9 (W .i64 (bb+1))) (none))
def gA.ze(N:Nat)(fQ:gA.jq)(x2:Int)(x3:ae)(x4:an)(x6:an)(x8:au)(x9:bJ)(bb:Int)(aX:bT):Option (an×(Int)):=gA.s0 N fQ x2 x3 x4 x6 x8 x9 bb aX
def gA.Dy(N:Nat)(qG:gA.BN)(fQ:gA.jq)(x2:Int)(x3:ae)(x4:an)(x6:an)(x8:au)(x9:bJ)(bb:Int):Option (an×(Int)):=
 cond (aT bb (List.length x4.2.1:Int)) (cond (aY bb (List.length x4.2.1)) (cond (!aN (((List.getD x4.2.1 bb.toNat aW).2).1) x2) (fQ x2 x3 x4 x6 x8 x9 (W .i64 (bb+1))) (cond (aN ((((List.getD x4.2.1 bb.toNat aW).2).2).1) (2:Int)) ((adC N x3 x4 ((List.getD x4.2.1 bb.toNat aW).1)).bind λr5=>(jD N r5.1).bind λr6=>(CI N (5:Int) ((List.getD x4.2.1 bb.toNat aW).1) (2:Int) (0:Int) r6).bind λr7=>cond (small (List.length x9+List.length r7)) (qG x2 x3 x4 x6 x8 (x9++r7) bb (List.getD x4.2.1 bb.toNat aW)) (none)) (qG x2 x3 x4 x6 x8 x9 bb (List.getD x4.2.1 bb.toNat aW)))) (none)) ((BG N x4 x8 x9).bind λRs=>some (Rs.1,Rs.2))
def gA.l8(N:Nat):Nat→gA.jq
 |0,_,_,_,_,_,_,_=>none
 |n+1,x2,x3,x4,x6,x8,x9,bb=>gA.Dy N (gA.ze N (gA.l8 N n)) (gA.l8 N n) x2 x3 x4 x6 x8 x9 bb
def gA.b(N:Nat)(HQ:gA.jq)(a0:ae)(a1:an)(a2:Int):Option (an×(Int)):=
 (cN N a0 a1).bind λr1=>cond (!r1) (some ((cg,(cT,(bq,(bq,(de,(dk,())))))),(1:Int))) ((Mc N a1 a2).bind λr2=>cond (aN r2 0) (some ((cg,(cT,(bq,(bq,(de,(dk,())))))),(3:Int))) (HQ a2 a0 a1 (cg,(cT,(bq,(bq,(de,(dk,())))))) ([]) ([]) (0:Int)))
def gA(N:Nat)(a0:ae)(a1:an)(a2:Int):Option (an×(Int)):=gA.b N (gA.l8 N N) a0 a1 a2
abbrev sE.bO:=ae→an→pW→Int→Option (pW×(Int))
def sE.eA(N:Nat)(bQ:sE.bO)(x2:ae)(x3:an)(x6:pW)(x7:Int):Option (pW×(Int)):=
 cond (aT x7 (List.length x2.1:Int)) (cond (aY x7 (List.length x2.1)) (cond (aY ((List.getD x2.1 x7.toNat aW).1) (List.length x6)) ((BV N x3.2.2.2.1 (0:Int) x7).bind λr4=>(jD N r4).bind λr5=>cond (aY x7 (List.length x3.2.2.2.2.1)) ((jD N (List.getD x3.2.2.2.2.1 x7.toNat (0:Int))).bind λr6=>(jE N r5 r6).bind λr7=>(zT N (List.getD x6 ((List.getD x2.1 x7.toNat aW).1).toNat (false,p9)) r7).bind λr8=>cond (aY ((List.getD x2.1 x7.toNat aW).1) (List.length x6)) (bQ x2 x3 (List.set x6 ((List.getD x2.1 x7.toNat aW).1).toNat r8) (W .i64 (x7+1))) (none)) (none)) (none)) (none)) (some (x6,(0:Int)))
def sE.l5(N:Nat):Nat→sE.bO
 |0,_,_,_,_=>none
 |n+1,x2,x3,x6,x7=>sE.eA N (sE.l5 N n) x2 x3 x6 x7
def sE.b(N:Nat)(ff:sE.bO)(a0:ae)(a1:an):Option (pW×(Int)):=
 (cN N a0 a1).bind λr1=>cond (!r1) (some ([],(1:Int))) (cond (jA 4 4) (ff a0 a1 (List.replicate (4:Int).toNat (false,p9)) (0:Int)) (none))
def sE(N:Nat)(a0:ae)(a1:an):Option (pW×(Int)):=sE.b N (sE.l5 N N) a0 a1
abbrev Cw.bO:=Int→ae→(List (Int))→Int→Option (List (Int))
def Cw.eA(N:Nat)(bQ:Cw.bO)(x1:Int)(x2:ae)(x5:List (Int))(x6:Int):Option (List (Int)):=
 cond (aT x6 (List.length x2.1:Int)) (cond (aY x6 (List.length x2.1)) (cond (aN ((List.getD x2.1 x6.toNat aW).1) x1) (cond (small (List.length x5+List.length ([x6]))) (bQ x1 x2 (x5++([x6])) (W .i64 (x6+1))) (none)) (bQ x1 x2 x5 (W .i64 (x6+1)))) (none)) (some x5)
def Cw.l5(N:Nat):Nat→Cw.bO
 |0,_,_,_,_=>none
 |n+1,x1,x2,x5,x6=>Cw.eA N (Cw.l5 N n) x1 x2 x5 x6
def Cw.b(N:Nat)(ff:Cw.bO)(a0:ae)(a1:Int):Option (List (Int)):=
 (mA N a0).bind λr1=>cond (!r1) (some ([])) (ff a1 a0 ([]) (0:Int))
def Cw(N:Nat)(a0:ae)(a1:Int):Option (List (Int)):=Cw.b N (Cw.l5 N N) a0 a1
abbrev qj.bX:=(List (Int))→(List (Int))→Int→Int→Option ((List (Int))×(Int))
def qj.eN(N:Nat)(cG:qj.bX)(x0:List (Int))(x4:List (Int))(x5:Int)(x6:Int):Option ((List (Int))×(Int)):=
 cond (cZ 0 x6) (cond (aT 32 0) (none) (cond (aY x6 (List.length x0)) (let v5:Int:=mW .or .u64 (W .u64 (shl .u64 x5 32)) (List.getD x0 x6.toNat (0:Int));cond (aT 1 0) (none) (cond (aY x6 (List.length x4)) (cG x0 (List.set x4 x6.toNat (shr .u64 v5 1)) (mW .and .u64 v5 1) (W .i64 (x6-1))) (none))) (none))) ((oD N x4).bind λkF=>some (kF,x5))
def qj.l4(N:Nat):Nat→qj.bX
 |0,_,_,_,_=>none
 |n+1,x0,x4,x5,x6=>qj.eN N (qj.l4 N n) x0 x4 x5 x6
def qj.b(N:Nat)(fN:qj.bX)(a0:List (Int)):Option ((List (Int))×(Int)):=
 cond (jA (List.length a0:Int) (List.length a0:Int)) (fN a0 (List.replicate (List.length a0:Int).toNat (0:Int)) (0:Int) (W .i64 ((List.length a0:Int)-1))) (none)
def qj(N:Nat)(a0:List (Int)):Option ((List (Int))×(Int)):=qj.b N (qj.l4 N N) a0
abbrev iz.mI:=aJ→aJ→aJ→aJ→(List (Int))→aJ→aJ→Int→Option (aJ×aJ)
abbrev iz.eh:=aJ→aJ→aJ→aJ→(List (Int))→(List (Int))→Option (aJ×aJ)
def iz.xG(N:Nat)(qz:iz.mI)(x2:aJ)(x3:aJ)(x4:aJ)(x5:aJ)(x6:List (Int))(bb:aJ)(aX:aJ)(bc:Int):Option (aJ×aJ):=
 cond (cZ 0 bc) ((zT N bb bb).bind λr6=>(zT N aX aX).bind λr7=>cond (aY bc (List.length x6)) (cond (aN (List.getD x6 bc.toNat (0:Int)) (1:Int)) ((jD N (1:Int)).bind λr8=>(zT N r7 r8).bind λr9=>(Lo N r9 x3).bind λkF=>cond (cZ 0 kF) ((RU N r9 x3).bind λod=>(jD N (1:Int)).bind λpn=>(zT N r6 pn).bind λnU=>qz x2 x3 x4 x5 x6 nU od (W .i64 (bc-1))) (qz x2 x3 x4 x5 x6 r6 r9 (W .i64 (bc-1)))) ((Lo N r7 x3).bind λyQ=>cond (cZ 0 yQ) ((RU N r7 x3).bind λwR=>(jD N (1:Int)).bind λBW=>(zT N r6 BW).bind λMv=>qz x2 x3 x4 x5 x6 Mv wR (W .i64 (bc-1))) (qz x2 x3 x4 x5 x6 r6 r7 (W .i64 (bc-1))))) (none)) (cond (!x2.1) (some (bb,aX)) ((Ol N aX).bind λMP=>cond (aN MP 0) ((Xm N bb).bind λEv=>some (Ev,aX)) ((Xm N bb).bind λI2=>(jD N (1:Int)).bind λKH=>(RU N I2 KH).bind λBX=>(RU N x3 aX).bind λW7=>some (BX,W7))))
def iz.l9(N:Nat):Nat→iz.mI
 |0,_,_,_,_,_,_,_,_=>none
 |n+1,x2,x3,x4,x5,x6,bb,aX,bc=>iz.xG N (iz.l9 N n) x2 x3 x4 x5 x6 bb aX bc
def iz.ob(N:Nat)(zN:iz.mI)(dA:iz.eh)(x2:aJ)(x3:aJ)(x4:aJ)(x5:aJ)(x6:List (Int))(x7:List (Int)):Option (aJ×aJ):=
 cond (aT 0 (List.length x7:Int)) ((qj N x7).bind λr2=>cond (small (List.length x6+List.length ([r2.2]))) (dA x2 x3 x4 x5 (x6++([r2.2])) r2.1) (none)) (zN x2 x3 x4 x5 x6 (false,p9) (false,p9) (W .i64 ((List.length x6:Int)-1)))
def iz.l3(N:Nat):Nat→iz.eh
 |0,_,_,_,_,_,_=>none
 |n+1,x2,x3,x4,x5,x6,x7=>iz.ob N (iz.l9 N N) (iz.l3 N n) x2 x3 x4 x5 x6 x7
def iz.b(N:Nat)(o4:iz.eh)(a0:aJ)(a1:aJ):Option (aJ×aJ):=
 o4 a0 a1 (false,p9) (false,p9) ([]) a0.2.1
def iz(N:Nat)(a0:aJ)(a1:aJ):Option (aJ×aJ):=iz.b N (iz.l3 N N) a0 a1
abbrev wj.BN:=Int→ae→an→pW→aO→Int→(List (Int))→Int→Option (aO×(Int))
abbrev wj.iu:=Int→ae→an→pW→aO→Int→Option (aO×(Int))
def wj.s0(N:Nat)(iv:wj.iu)(x2:Int)(x3:ae)(x4:an)(x8:pW)(bb:aO)(aX:Int)(bc:List (Int))(eI:Int):Option (aO×(Int)):=
 cond (aN eI 0) (iv x2 x3 x4 x8 bb (W .i64 (aX+1))) (cond (aY 0 (List.length bc)) (cond (aY aX (List.length x8)) ((Ol N (List.getD x8 aX.toNat (false,p9))).bind λsU=>cond (aT 0 sU) (cond (small (List.length bb+List.length ([(x2,(List.getD bc (0:Int).toNat (0:Int),((2:Int),(eI,()))))]))) (iv (W .i64 (x2+1)) x3 x4 x8 (bb++([(x2,(List.getD bc (0:Int).toNat (0:Int),((2:Int),(eI,()))))])) (W .i64 (aX+1))) (none)) (cond (small (List.length bb+List.length ([(x2,(List.getD bc (0:Int).toNat (0:Int),((1:Int),(eI,()))))]))) (iv (W .i64 (x2+1)) x3 x4 x8 (bb++([(x2,(List.getD bc (0:Int).toNat (0:Int),((1:Int),(eI,()))))])) (W .i64 (aX+1))) (none))) (none)) (none))
def wj.ze(N:Nat)(iv:wj.iu)(x2:Int)(x3:ae)(x4:an)(x8:pW)(bb:aO)(aX:Int)(bc:List (Int))(eI:Int):Option (aO×(Int)):=wj.s0 N iv x2 x3 x4 x8 bb aX bc eI
def wj.tX(N:Nat)(qG:wj.BN)(iv:wj.iu)(x2:Int)(x3:ae)(x4:an)(x8:pW)(bb:aO)(aX:Int):Option (aO×(Int)):=
 cond (aT aX 4) ((Cw N x3 aX).bind λr3=>cond (aY aX (List.length x8)) ((Xn N (List.getD x8 aX.toNat (false,p9))).bind λr4=>cond (aN (List.length r3:Int) 0) (iv x2 x3 x4 x8 bb (W .i64 (aX+1))) ((jD N x3.2.2.2.2.2.2.1).bind λr6=>(Lo N r4 r6).bind λr7=>cond (cZ r7 0) (iv x2 x3 x4 x8 bb (W .i64 (aX+1))) (cond (aY 0 (List.length r3)) (cond (aY (List.getD r3 (0:Int).toNat (0:Int)) (List.length x4.2.2.2.2.1)) ((jD N (List.getD x4.2.2.2.2.1 (List.getD r3 (0:Int).toNat (0:Int)).toNat (0:Int))).bind λr9=>(iz N r4 r9).bind λkF=>(xD N kF.1).bind λod=>cond (!od.2) (qG x2 x3 x4 x8 bb aX r3 (1000000000:Int)) (cond (aT 1000000000 od.1) (qG x2 x3 x4 x8 bb aX r3 (1000000000:Int)) (qG x2 x3 x4 x8 bb aX r3 od.1))) (none)) (none)))) (none)) (some (bb,(0:Int)))
def wj.l6(N:Nat):Nat→wj.iu
 |0,_,_,_,_,_,_=>none
 |n+1,x2,x3,x4,x8,bb,aX=>wj.tX N (wj.ze N (wj.l6 N n)) (wj.l6 N n) x2 x3 x4 x8 bb aX
def wj.b(N:Nat)(wv:wj.iu)(a0:ae)(a1:an)(a2:Int):Option (aO×(Int)):=
 (sE N a0 a1).bind λr1=>cond (!aN r1.2 0) (some ([],(1:Int))) (cond (aT a2 1) (some ([],(1:Int))) (cond (aT 1099511627772 a2) (some ([],(1:Int))) (wv a2 a0 a1 r1.1 ([]) (0:Int))))
def wj(N:Nat)(a0:ae)(a1:an)(a2:Int):Option (aO×(Int)):=wj.b N (wj.l6 N N) a0 a1 a2
def ZB(N:Nat)(a0:bT):Option (Bool):=
 cond (cZ 1 a0.1) (cond (cZ a0.1 1099511627776) (cond (cZ 0 a0.2.1) (cond (aT a0.2.1 6) (cond (aN a0.2.2.1 1) (cond (cZ 1 a0.2.2.2.1) (some (cZ a0.2.2.2.1 1000000000)) (some false)) (cond (aN a0.2.2.1 2) (cond (cZ 1 a0.2.2.2.1) (some (cZ a0.2.2.2.1 1000000000)) (some false)) (some false))) (some false)) (some false)) (some false)) (some false)
abbrev qw.aqO:=Int→ae→an→bT→an→bT→iP→Option (an×bT×(Int))
def qw.adj(N:Nat)(x4:Int)(x6:ae)(x7:an)(x8:bT)(bc:an)(bU:bT)(ei:iP):Option (an×bT×(Int)):=
 (gz N x6 x7 ([ei])).bind λr6=>cond (!aN r6.2 0) (some ((cg,(cT,(bq,(bq,(de,(dk,())))))),aW,r6.2)) (some (r6.1,(x8.1,(x8.2.1,(x8.2.2.1,((W .i64 (x8.2.2.2.1-x4)),x8.2.2.2.2)))),(0:Int)))
def qw.j14(N:Nat)(x4:Int)(x6:ae)(x7:an)(x8:bT)(bc:an)(bU:bT)(ei:iP):Option (an×bT×(Int)):=qw.adj N x4 x6 x7 x8 bc bU ei
def qw.b(N:Nat)(aiR:qw.aqO)(a0:ae)(a1:an)(a2:bT)(a3:Int)(a4:Int)(a5:Int):Option (an×bT×(Int)):=
 (cN N a0 a1).bind λr1=>cond (!r1) (some ((cg,(cT,(bq,(bq,(de,(dk,())))))),aW,(1:Int))) ((ZB N a2).bind λr2=>cond (!r2) (some ((cg,(cT,(bq,(bq,(de,(dk,())))))),aW,(1:Int))) (cond (aT a4 1) (some ((cg,(cT,(bq,(bq,(de,(dk,())))))),aW,(1:Int))) (cond (aT 1000000000 a4) (some ((cg,(cT,(bq,(bq,(de,(dk,())))))),aW,(1:Int))) (cond (aT a5 1) (some ((cg,(cT,(bq,(bq,(de,(dk,())))))),aW,(1:Int))) (cond (aT 1000000000000 a5) (some ((cg,(cT,(bq,(bq,(de,(dk,())))))),aW,(1:Int))) (cond (aT a2.2.2.2.1 a4) (some ((cg,(cT,(bq,(bq,(de,(dk,())))))),aW,(9:Int))) (cond (aT a3 1) (some ((cg,(cT,(bq,(bq,(de,(dk,())))))),aW,(1:Int))) (cond (aT 24 a3) (some ((cg,(cT,(bq,(bq,(de,(dk,())))))),aW,(1:Int))) ((ZF N a0 a1 (a2.1,(a3,(a2.2.1,((W .i64 ((3:Int)-a2.2.2.1)),(a4,(a5,()))))))).bind λr4=>cond (!aN r4 0) (some ((cg,(cT,(bq,(bq,(de,(dk,())))))),aW,r4)) (cond (aN a2.2.2.1 2) (aiR a4 a0 a1 a2 (cg,(cT,(bq,(bq,(de,(dk,())))))) aW (a3,((0:Int),(a2.2.1,(a4,(a5,())))))) (aiR a4 a0 a1 a2 (cg,(cT,(bq,(bq,(de,(dk,())))))) aW ((0:Int),(a3,(a2.2.1,(a4,(a5,()))))))))))))))))
def qw(N:Nat)(a0:ae)(a1:an)(a2:bT)(a3:Int)(a4:Int)(a5:Int):Option (an×bT×(Int)):=qw.b N (qw.j14 N) a0 a1 a2 a3 a4 a5
abbrev n6.bO:=ae→aV→g9→aV→cK→aO→Bool→Int→Int→Option (aV×cK)
def n6.eA(N:Nat)(bQ:n6.bO)(x3:ae)(x4:aV)(x5:g9)(x6:aV)(x7:cK)(x8:aO)(x9:Bool)(bb:Int)(aX:Int):Option (aV×cK):=
 cond (aT aX (List.length x4.2.2.2.1.2.2.2.2.1:Int)) (cond (aY aX (List.length x4.2.2.2.1.2.2.2.2.1)) (cond (aN ((List.getD x4.2.2.2.1.2.2.2.2.1 aX.toNat aW).1) x5.2.2.2.2.2.1) ((qw N x3 x4.2.2.1 (List.getD x4.2.2.2.1.2.2.2.2.1 aX.toNat aW) x5.2.2.1 x5.2.2.2.2.2.2.1 x5.2.2.2.2.2.2.2.1).bind λr2=>cond (!aN r2.2.2 0) ((fC N r2.2.2).bind λr3=>some (x4,r3)) (cond (aT 0 r2.2.1.2.2.2.1) (cond (small (List.length x8+List.length ([r2.2.1]))) (bQ x3 (x4.1,(x4.2.1,(r2.1,x4.2.2.2))) x5 x6 x7 (x8++([r2.2.1])) true r2.2.1.2.2.2.1 (W .i64 (aX+1))) (none)) (bQ x3 (x4.1,(x4.2.1,(r2.1,x4.2.2.2))) x5 x6 x7 x8 true r2.2.1.2.2.2.1 (W .i64 (aX+1))))) (cond (aT 0 (((((List.getD x4.2.2.2.1.2.2.2.2.1 aX.toNat aW).2).2).2).1)) (cond (small (List.length x8+List.length ([List.getD x4.2.2.2.1.2.2.2.2.1 aX.toNat aW]))) (bQ x3 x4 x5 x6 x7 (x8++([List.getD x4.2.2.2.1.2.2.2.2.1 aX.toNat aW])) x9 bb (W .i64 (aX+1))) (none)) (bQ x3 x4 x5 x6 x7 x8 x9 bb (W .i64 (aX+1))))) (none)) (cond (!x9) ((fC N (3:Int)).bind λkF=>some (x4,kF)) (some ((x4.1,(x4.2.1,(x4.2.2.1,((x4.2.2.2.1.1,(x4.2.2.2.1.2.1,(x4.2.2.2.1.2.2.1,(x4.2.2.2.1.2.2.2.1,(x8,x4.2.2.2.1.2.2.2.2.2))))),x4.2.2.2.2)))),((0:Int),((0:Int),(bb,()))))))
def n6.l5(N:Nat):Nat→n6.bO
 |0,_,_,_,_,_,_,_,_,_=>none
 |n+1,x3,x4,x5,x6,x7,x8,x9,bb,aX=>n6.eA N (n6.l5 N n) x3 x4 x5 x6 x7 x8 x9 bb aX
def n6.b(N:Nat)(ff:n6.bO)(a0:ae)(a1:aV)(a2:g9):Option (aV×cK):=
 ff a0 a1 a2 ((0:Int),((0:Int),((cg,(cT,(bq,(bq,(de,(dk,())))))),(((0:Int),((0:Int),((0:Int),((0:Int),(cT,(([]:List ((Int)×((List ((Int)×((Int)×(Unit))))×((Int)×((Int)×((Int)×((Int)×(Unit)))))))),(cT,(de,(cg,(cg,())))))))))),(((0:Int),((0:Int),(EF,((0:Int),())))),()))))) a6 ([]) false (0:Int) (0:Int)
def n6(N:Nat)(a0:ae)(a1:aV)(a2:g9):Option (aV×cK):=n6.b N (n6.l5 N N) a0 a1 a2
abbrev sH.bX:=Int→aJ→Int→Option (Int)
def sH.eN(N:Nat)(cG:sH.bX)(x1:Int)(x2:aJ)(x5:Int):Option (Int):=
 cond (aT x5 3) ((jD N x5).bind λr3=>(jD N x1).bind λr4=>(jE N r3 r4).bind λr5=>(Lo N r5 x2).bind λr6=>cond (aT r6 0) (cG x1 x2 (W .i64 (x5+1))) (some x5)) (some x5)
def sH.l4(N:Nat):Nat→sH.bX
 |0,_,_,_=>none
 |n+1,x1,x2,x5=>sH.eN N (sH.l4 N n) x1 x2 x5
def sH.b(N:Nat)(fN:sH.bX)(a0:aJ)(a1:Int):Option (Int):=
 (Ol N a0).bind λr1=>cond (cZ r1 0) (some (0:Int)) (cond (aT a1 1) (some (0:Int)) (fN a1 a0 (1:Int)))
def sH(N:Nat)(a0:aJ)(a1:Int):Option (Int):=sH.b N (sH.l4 N N) a0 a1
abbrev qu.bX:=(List (Int))→Int→Option (Bool)
def qu.eN(N:Nat)(cG:qu.bX)(x1:List (Int))(x5:Int):Option (Bool):=
 cond (aT x5 (List.length x1:Int)) (cond (aY x5 (List.length x1)) (cond (aT (List.getD x1 x5.toNat (0:Int)) (0:Int)) (some true) (cG x1 (W .i64 (x5+1)))) (none)) (some false)
def qu.l4(N:Nat):Nat→qu.bX
 |0,_,_=>none
 |n+1,x1,x5=>qu.eN N (qu.l4 N n) x1 x5
def qu.b(N:Nat)(fN:qu.bX)(a0:Int)(a1:List (Int)):Option (Bool):=
 cond (aT a0 0) (some true) (cond (aT 64 (List.length a1:Int)) (some true) (fN a1 (0:Int)))
def qu(N:Nat)(a0:Int)(a1:List (Int)):Option (Bool):=qu.b N (qu.l4 N N) a0 a1
abbrev qg.eh:=(List (Int))→aJ→aJ→Int→Option aJ
def qg.ob(N:Nat)(dA:qg.eh)(x0:List (Int))(x2:aJ)(x3:aJ)(x4:Int):Option aJ:=
 cond (aT x4 (List.length x0:Int)) (cond (aY x4 (List.length x0)) ((jD N (List.getD x0 x4.toNat (0:Int))).bind λr2=>(zT N x3 r2).bind λr3=>dA x0 x2 r3 (W .i64 (x4+1))) (none)) (some x3)
def qg.l3(N:Nat):Nat→qg.eh
 |0,_,_,_,_=>none
 |n+1,x0,x2,x3,x4=>qg.ob N (qg.l3 N n) x0 x2 x3 x4
def qg.b(N:Nat)(o4:qg.eh)(a0:List (Int)):Option aJ:=
 o4 a0 (false,p9) (false,p9) (0:Int)
def qg(N:Nat)(a0:List (Int)):Option aJ:=qg.b N (qg.l3 N N) a0
abbrev fD.aaH:=(List (Int))→(List (Int))→Int→Int→Option (List (Int))
abbrev fD.iu:=(List (Int))→(List (Int))→Int→Int→Option (List (Int))
abbrev fD.eh:=(List (Int))→(List (Int))→Int→Option (List (Int))
def fD.YG(N:Nat)(dA:fD.eh)(x0:List (Int))(x3:List (Int))(x4:Int)(x5:Int):Option (List (Int)):=
 cond (kd 0 x5 (List.length x3:Int) (List.length x3:Int)) (let v5:List (Int):=List.drop (0:Int).toNat (List.take x5.toNat x3);cond (small (List.length v5)) (cond (small (List.length v5+List.length ([x4]))) (let v6:List (Int):=v5++([x4]);cond (kd x5 (List.length x3:Int) (List.length x3:Int) (List.length x3:Int)) (let v7:List (Int):=List.drop x5.toNat (List.take (List.length x3:Int).toNat x3);cond (small (List.length v6+List.length v7)) (dA x0 (v6++v7) (W .i64 (x4+1))) (none)) (none)) (none)) (none)) (none)
def fD.j8(N:Nat)(dA:fD.eh)(x0:List (Int))(x3:List (Int))(x4:Int)(x5:Int):Option (List (Int)):=fD.YG N dA x0 x3 x4 x5
def fD.tX(N:Nat)(P5:fD.aaH)(dA:fD.eh)(iv:fD.iu)(x0:List (Int))(x3:List (Int))(x4:Int)(x5:Int):Option (List (Int)):=
 cond (aT x5 (List.length x3:Int)) (cond (aY x5 (List.length x3)) (cond (aY (List.getD x3 x5.toNat (0:Int)) (List.length x0)) (cond (aY x4 (List.length x0)) (cond (cZ (List.getD x0 x4.toNat (0:Int)) (List.getD x0 (List.getD x3 x5.toNat (0:Int)).toNat (0:Int))) (iv x0 x3 x4 (W .i64 (x5+1))) (P5 x0 x3 x4 x5)) (none)) (none)) (none)) (P5 x0 x3 x4 x5)
def fD.l6(N:Nat)(dA:fD.eh):Nat→fD.iu
 |0,_,_,_,_=>none
 |n+1,x0,x3,x4,x5=>fD.tX N (fD.j8 N dA) dA (fD.l6 N dA n) x0 x3 x4 x5
def fD.ob(N:Nat)(wv:fD.iu)(dA:fD.eh)(x0:List (Int))(x3:List (Int))(x4:Int):Option (List (Int)):=
 cond (aT x4 (List.length x0:Int)) (wv x0 x3 x4 (0:Int)) (some x3)
def fD.l3(N:Nat):Nat→fD.eh
 |0,_,_,_=>none
 |n+1,x0,x3,x4=>fD.ob N (fD.l6 N (fD.l3 N n) N) (fD.l3 N n) x0 x3 x4
def fD.b(N:Nat)(o4:fD.eh)(a0:List (Int)):Option (List (Int)):=
 o4 a0 ([]) (0:Int)
def fD(N:Nat)(a0:List (Int)):Option (List (Int)):=fD.b N (fD.l3 N N) a0
abbrev fK.sP:=(List (Int))→Int→(List (Int))→Int→Option ((List (Int))×(Int))
abbrev fK.ye:=Int→(List (Int))→aJ→(List (Int))→(List (Int))→Int→Int→Option ((List (Int))×(Int))
abbrev fK.S3:=Int→(List (Int))→aJ→Option ((List (Int))×(Int))
def fK.wQ(N:Nat)(HH:fK.sP)(x9:List (Int))(aX:Int)(dd:List (Int))(eI:Int):Option ((List (Int))×(Int)):=
 cond (aT eI (List.length dd:Int)) (cond (aT 0 aX) (cond (aY eI (List.length dd)) (cond (aY (List.getD dd eI.toNat (0:Int)) (List.length x9)) (cond (aY (List.getD dd eI.toNat (0:Int)) (List.length x9)) (HH (List.set x9 (List.getD dd eI.toNat (0:Int)).toNat (W .i64 ((List.getD x9 (List.getD dd eI.toNat (0:Int)).toNat (0:Int))+1))) (W .i64 (aX-1)) dd (W .i64 (eI+1))) (none)) (none)) (none)) (some (x9,(0:Int)))) (some (x9,(0:Int)))
def fK.xL(N:Nat):Nat→fK.sP
 |0,_,_,_,_=>none
 |n+1,x9,aX,dd,eI=>fK.wQ N (fK.xL N n) x9 aX dd eI
def fK.G0(N:Nat)(HI:fK.sP)(DX:fK.ye)(x0:Int)(x1:List (Int))(x6:aJ)(x9:List (Int))(bb:List (Int))(aX:Int)(bc:Int):Option ((List (Int))×(Int)):=
 cond (aT bc (List.length x1:Int)) ((jD N x0).bind λkF=>cond (aY bc (List.length x1)) ((jD N (List.getD x1 bc.toNat (0:Int))).bind λod=>(jE N kF od).bind λpn=>(iz N pn x6).bind λnU=>(xD N nU.1).bind λsU=>cond (aY bc (List.length x9)) (let v15:List (Int):=List.set x9 bc.toNat sU.1;(xD N nU.2).bind λyQ=>cond (aY bc (List.length bb)) (cond (aY bc (List.length v15)) (DX x0 x1 x6 v15 (List.set bb bc.toNat yQ.1) (W .i64 (aX-(List.getD v15 bc.toNat (0:Int)))) (W .i64 (bc+1))) (none)) (none)) (none)) (none)) ((fD N bb).bind λMu=>HI x9 aX Mu (0:Int))
def fK.JV(N:Nat):Nat→fK.ye
 |0,_,_,_,_,_,_,_=>none
 |n+1,x0,x1,x6,x9,bb,aX,bc=>fK.G0 N (fK.xL N N) (fK.JV N n) x0 x1 x6 x9 bb aX bc
def fK.Oe(N:Nat)(Qa:fK.ye)(x0:Int)(x1:List (Int))(x6:aJ):Option ((List (Int))×(Int)):=
 (xD N x6).bind λr5=>cond (!r5.2) (some ([],(2:Int))) (cond (jA (List.length x1:Int) (List.length x1:Int)) (let v6:List (Int):=List.replicate (List.length x1:Int).toNat (0:Int);cond (jA (List.length x1:Int) (List.length x1:Int)) ((Ol N x6).bind λr8=>cond (aN r8 0) (some (v6,(0:Int))) (Qa x0 x1 x6 v6 (List.replicate (List.length x1:Int).toNat (0:Int)) x0 (0:Int))) (none)) (none))
def fK.j6(N:Nat)(x0:Int)(x1:List (Int))(x6:aJ):Option ((List (Int))×(Int)):=fK.Oe N (fK.JV N N) x0 x1 x6
def fK.b(N:Nat)(CR:fK.S3)(a0:Int)(a1:List (Int)):Option ((List (Int))×(Int)):=
 (qu N a0 a1).bind λr1=>cond (r1) (some ([],(1:Int))) ((qg N a1).bind λr2=>(Ol N r2).bind λr3=>cond (aN r3 0) (cond (!aN a0 0) (some ([],(1:Int))) (CR a0 a1 r2)) (CR a0 a1 r2))
def fK(N:Nat)(a0:Int)(a1:List (Int)):Option ((List (Int))×(Int)):=fK.b N (fK.j6 N) a0 a1
abbrev sy.bO:=Int→Int→(List (Int))→Int→Option ((List (Int))×(Int))
def sy.eA(N:Nat)(bQ:sy.bO)(x0:Int)(x1:Int)(x6:List (Int))(x7:Int):Option ((List (Int))×(Int)):=
 cond (aT x7 x1) (cond (aY x7 (List.length x6)) (bQ x0 x1 (List.set x6 x7.toNat (1:Int)) (W .i64 (x7+1))) (none)) ((fK N x0 x6).bind λr5=>some (r5.1,r5.2))
def sy.l5(N:Nat):Nat→sy.bO
 |0,_,_,_,_=>none
 |n+1,x0,x1,x6,x7=>sy.eA N (sy.l5 N n) x0 x1 x6 x7
def sy.b(N:Nat)(ff:sy.bO)(a0:Int)(a1:Int):Option ((List (Int))×(Int)):=
 cond (aT a0 0) (some ([],(1:Int))) (cond (aT a1 1) (some ([],(1:Int))) (cond (aT 64 a1) (some ([],(1:Int))) (cond (jA a1 a1) (ff a0 a1 (List.replicate a1.toNat (0:Int)) (0:Int)) (none))))
def sy(N:Nat)(a0:Int)(a1:Int):Option ((List (Int))×(Int)):=sy.b N (sy.l5 N N) a0 a1
abbrev eH.aqP:=Int→ae→aD→bE→Int→aD→Int→Int→jc→aD→Int→(List (Int))→Option (bE×(Int))
abbrev eH.aaL:=Int→ae→aD→bE→Int→aD→Int→Int→jc→aD→Int→Int→Option (bE×(Int))
abbrev eH.sQ:=Int→ae→aD→bE→Int→aD→Int→Int→jc→aD→Int→Option (bE×(Int))
abbrev eH.vl:=Int→ae→aD→bE→Int→aD→Int→Int→Option (bE×(Int))
abbrev eH.gm:=Int→ae→aD→bE→Int→aD→aJ→Int→Option (bE×(Int))
abbrev eH.jq:=Int→ae→aD→bE→Int→Option (bE×(Int))
def eH.akQ(N:Nat)(fQ:eH.jq)(mV:eH.vl)(sR:eH.sQ)(x2:Int)(x3:ae)(x8:aD)(x9:bE)(bb:Int)(aX:aD)(ca:Int)(dd:Int)(eI:jc)(wx:aD)(ei:Int)(iV:List (Int)):Option (bE×(Int)):=
 cond (aY dd (List.length iV)) (cond (!aN (List.getD iV dd.toNat (0:Int)) (0:Int)) (cond (aY ei (List.length aX)) (cond (aY dd (List.length iV)) (cond (small (List.length wx+List.length ([((List.getD aX ei.toNat cv).1,(List.getD iV dd.toNat (0:Int),()))]))) (sR x2 x3 x8 x9 bb aX ca dd (eI.1,(cg,eI.2.2)) (wx++([((List.getD aX ei.toNat cv).1,(List.getD iV dd.toNat (0:Int),()))])) (W .i64 (ei+1))) (none)) (none)) (none)) (sR x2 x3 x8 x9 bb aX ca dd eI wx (W .i64 (ei+1)))) (none)
def eH.j32(N:Nat)(fQ:eH.jq)(mV:eH.vl)(sR:eH.sQ)(x2:Int)(x3:ae)(x8:aD)(x9:bE)(bb:Int)(aX:aD)(ca:Int)(dd:Int)(eI:jc)(wx:aD)(ei:Int)(iV:List (Int)):Option (bE×(Int)):=eH.akQ N fQ mV sR x2 x3 x8 x9 bb aX ca dd eI wx ei iV
def eH.PG(N:Nat)(aiS:eH.aqP)(fQ:eH.jq)(mV:eH.vl)(sR:eH.sQ)(x2:Int)(x3:ae)(x8:aD)(x9:bE)(bb:Int)(aX:aD)(ca:Int)(dd:Int)(eI:jc)(wx:aD)(ei:Int)(iE:Int):Option (bE×(Int)):=
 (sy N iE ca).bind λyQ=>cond (aY ei (List.length aX)) (cond (aT (((List.getD aX ei.toNat cv).2).1) (0:Int)) (cond (aY dd (List.length yQ.1)) (cond (aY dd (List.length yQ.1)) (aiS x2 x3 x8 x9 bb aX ca dd eI wx ei (List.set yQ.1 dd.toNat (W .i64 (0-(List.getD yQ.1 dd.toNat (0:Int)))))) (none)) (none)) (aiS x2 x3 x8 x9 bb aX ca dd eI wx ei yQ.1)) (none)
def eH.WI(N:Nat)(fQ:eH.jq)(mV:eH.vl)(sR:eH.sQ)(x2:Int)(x3:ae)(x8:aD)(x9:bE)(bb:Int)(aX:aD)(ca:Int)(dd:Int)(eI:jc)(wx:aD)(ei:Int)(iE:Int):Option (bE×(Int)):=eH.PG N (eH.j32 N fQ mV sR) fQ mV sR x2 x3 x8 x9 bb aX ca dd eI wx ei iE
def eH.Ef(N:Nat)(Qb:eH.aaL)(fQ:eH.jq)(mV:eH.vl)(sR:eH.sQ)(x2:Int)(x3:ae)(x8:aD)(x9:bE)(bb:Int)(aX:aD)(ca:Int)(dd:Int)(eI:jc)(wx:aD)(ei:Int):Option (bE×(Int)):=
 cond (aT ei (List.length aX:Int)) (cond (aY ei (List.length aX)) (cond (aT (((List.getD aX ei.toNat cv).2).1) (0:Int)) (Qb x2 x3 x8 x9 bb aX ca dd eI wx ei (W .i64 (0-(((List.getD aX ei.toNat cv).2).1)))) (Qb x2 x3 x8 x9 bb aX ca dd eI wx ei (((List.getD aX ei.toNat cv).2).1))) (none)) (cond (aN (List.length wx:Int) 0) (mV x2 x3 x8 x9 bb aX ca (W .i64 (dd+1))) ((ZY N x3 wx).bind λI2=>(Xm N I2.1).bind λKH=>(xD N KH).bind λBX=>cond (!BX.2) (some ([],(2:Int))) (cond (small (List.length x9+List.length ([(eI.1,(wx,(BX.1,eI.2.2.2)))]))) (mV (W .i64 (x2+1)) x3 x8 (x9++([(eI.1,(wx,(BX.1,eI.2.2.2)))])) bb aX ca (W .i64 (dd+1))) (none))))
def eH.Ds(N:Nat)(fQ:eH.jq)(mV:eH.vl):Nat→eH.sQ
 |0,_,_,_,_,_,_,_,_,_,_,_=>none
 |n+1,x2,x3,x8,x9,bb,aX,ca,dd,eI,wx,ei=>eH.Ef N (eH.WI N fQ mV (eH.Ds N fQ mV n)) fQ mV (eH.Ds N fQ mV n) x2 x3 x8 x9 bb aX ca dd eI wx ei
def eH.PF(N:Nat)(P2:eH.sQ)(fQ:eH.jq)(mV:eH.vl)(x2:Int)(x3:ae)(x8:aD)(x9:bE)(bb:Int)(aX:aD)(ca:Int)(dd:Int):Option (bE×(Int)):=
 cond (aT dd ca) (P2 x2 x3 x8 x9 bb aX ca dd (x2,(cg,((0:Int),((1:Int),cv)))) cg (0:Int)) (fQ x2 x3 x8 x9 (W .i64 (bb+1)))
def eH.IV(N:Nat)(fQ:eH.jq):Nat→eH.vl
 |0,_,_,_,_,_,_,_,_=>none
 |n+1,x2,x3,x8,x9,bb,aX,ca,dd=>eH.PF N (eH.Ds N fQ (eH.IV N fQ n) N) fQ (eH.IV N fQ n) x2 x3 x8 x9 bb aX ca dd
def eH.mF(N:Nat)(aaM:eH.vl)(fQ:eH.jq)(iW:eH.gm)(x2:Int)(x3:ae)(x8:aD)(x9:bE)(bb:Int)(aX:aD)(bc:aJ)(bU:Int):Option (bE×(Int)):=
 cond (aT bU (List.length x8:Int)) (cond (aY bU (List.length x8)) (cond (aY ((List.getD x8 bU.toNat cv).1) (List.length x3.1)) (cond (aN ((List.getD x3.1 ((List.getD x8 bU.toNat cv).1).toNat aW).1) bb) (cond (aY bU (List.length x8)) (cond (small (List.length aX+List.length ([List.getD x8 bU.toNat cv]))) (cond (aY bU (List.length x8)) ((jD N (((List.getD x8 bU.toNat cv).2).1)).bind λr6=>(Xn N r6).bind λr7=>(zT N bc r7).bind λr8=>iW x2 x3 x8 x9 bb (aX++([List.getD x8 bU.toNat cv])) r8 (W .i64 (bU+1))) (none)) (none)) (none)) (iW x2 x3 x8 x9 bb aX bc (W .i64 (bU+1)))) (none)) (none)) ((sH N bc x3.2.2.2.2.2.1).bind λod=>aaM x2 x3 x8 x9 bb aX od (0:Int))
def eH.oi(N:Nat)(fQ:eH.jq):Nat→eH.gm
 |0,_,_,_,_,_,_,_,_=>none
 |n+1,x2,x3,x8,x9,bb,aX,bc,bU=>eH.mF N (eH.IV N fQ N) fQ (eH.oi N fQ n) x2 x3 x8 x9 bb aX bc bU
def eH.Dy(N:Nat)(vk:eH.gm)(fQ:eH.jq)(x2:Int)(x3:ae)(x8:aD)(x9:bE)(bb:Int):Option (bE×(Int)):=
 cond (aT bb 4) (vk x2 x3 x8 x9 bb ([]) (false,p9) (0:Int)) (some (x9,(0:Int)))
def eH.l8(N:Nat):Nat→eH.jq
 |0,_,_,_,_,_=>none
 |n+1,x2,x3,x8,x9,bb=>eH.Dy N (eH.oi N (eH.l8 N n) N) (eH.l8 N n) x2 x3 x8 x9 bb
def eH.b(N:Nat)(HQ:eH.jq)(a0:ae)(a1:an)(a2:Int):Option (bE×(Int)):=
 (cN N a0 a1).bind λr1=>cond (!r1) (some ([],(1:Int))) (cond (aT a2 1) (some ([],(1:Int))) (cond (aT 1099511627764 a2) (some ([],(1:Int))) ((y9 N a1.2.2.2.1 (0:Int)).bind λr2=>cond (aN (List.length r2:Int) 0) (some ([],(3:Int))) (HQ a2 a0 r2 ([]) (0:Int)))))
def eH(N:Nat)(a0:ae)(a1:an)(a2:Int):Option (bE×(Int)):=eH.b N (eH.l8 N N) a0 a1 a2
abbrev sI.bO:=an→(List (Int))→Int→Option ((List (Int))×(Int))
def sI.eA(N:Nat)(bQ:sI.bO)(x3:an)(x6:List (Int))(x7:Int):Option ((List (Int))×(Int)):=
 cond (aT x7 (List.length x3.1:Int)) (cond (aY x7 (List.length x3.1)) (cond (aN (((List.getD x3.1 x7.toNat cv).2).1) (1:Int)) (cond (aY x7 (List.length x3.1)) ((wF N x3.2.2.1 (6:Int) ((List.getD x3.1 x7.toNat cv).1)).bind λr3=>cond (aT 0 r3) (cond (aY x7 (List.length x3.1)) (cond (small (List.length x6+List.length ([(List.getD x3.1 x7.toNat cv).1]))) (bQ x3 (x6++([(List.getD x3.1 x7.toNat cv).1])) (W .i64 (x7+1))) (none)) (none)) (bQ x3 x6 (W .i64 (x7+1)))) (none)) (bQ x3 x6 (W .i64 (x7+1)))) (none)) (some (x6,(0:Int)))
def sI.l5(N:Nat):Nat→sI.bO
 |0,_,_,_=>none
 |n+1,x3,x6,x7=>sI.eA N (sI.l5 N n) x3 x6 x7
def sI.b(N:Nat)(ff:sI.bO)(a0:ae)(a1:an):Option ((List (Int))×(Int)):=
 (cN N a0 a1).bind λr1=>cond (!r1) (some ([],(1:Int))) (ff a1 ([]) (0:Int))
def sI(N:Nat)(a0:ae)(a1:an):Option ((List (Int))×(Int)):=sI.b N (sI.l5 N N) a0 a1
abbrev iX.S5:=bE→ae→Int→jc→Option (Bool)
abbrev iX.bX:=bE→ae→Int→Option (Bool)
def iX.On(N:Nat)(cG:iX.bX)(x1:bE)(x2:ae)(x5:Int)(x6:jc):Option (Bool):=
 cond (aN x6.2.2.2.1 1) (cond (!aN x6.2.2.2.2.1 0) (some false) (cond (!aN x6.2.2.2.2.2.1 0) (some false) (cG x1 x2 (W .i64 (x5+1))))) (cond (aN x6.2.2.2.1 3) (cond (!aN x6.2.2.2.2.1 0) (some false) (cond (!aN x6.2.2.2.2.2.1 0) (some false) (cG x1 x2 (W .i64 (x5+1))))) (cond (aN x6.2.2.2.1 2) (cond (aT x6.2.2.2.2.1 1) (some false) (cond (aT 12 x6.2.2.2.2.1) (some false) (cond (aT x6.2.2.2.2.2.1 (-1152921504606846976)) (some false) (cond (aT 1152921504606846976 x6.2.2.2.2.2.1) (some false) (cG x1 x2 (W .i64 (x5+1))))))) (some false)))
def iX.j9(N:Nat)(cG:iX.bX)(x1:bE)(x2:ae)(x5:Int)(x6:jc):Option (Bool):=iX.On N cG x1 x2 x5 x6
def iX.eN(N:Nat)(HO:iX.S5)(cG:iX.bX)(x1:bE)(x2:ae)(x5:Int):Option (Bool):=
 cond (aT x5 (List.length x1:Int)) (cond (aY x5 (List.length x1)) (cond (aT ((List.getD x1 x5.toNat ((0:Int),(cg,aW))).1) (1:Int)) (some false) (cond (aT 1099511627776 ((List.getD x1 x5.toNat ((0:Int),(cg,aW))).1)) (some false) (cond (aT 0 x5) (let v3:Int:=W .i64 (x5-1);cond (aY v3 (List.length x1)) (cond (cZ ((List.getD x1 x5.toNat ((0:Int),(cg,aW))).1) ((List.getD x1 v3.toNat ((0:Int),(cg,aW))).1)) (some false) (cond (aN (List.length (((List.getD x1 x5.toNat ((0:Int),(cg,aW))).2).1):Int) (0:Int)) (some false) ((nQ N x2 (((List.getD x1 x5.toNat ((0:Int),(cg,aW))).2).1)).bind λr4=>cond (!r4) (some false) (cond (aT 0 ((((List.getD x1 x5.toNat ((0:Int),(cg,aW))).2).2).1)) (some false) (HO x1 x2 x5 (List.getD x1 x5.toNat ((0:Int),(cg,aW)))))))) (none)) (cond (aN (List.length (((List.getD x1 x5.toNat ((0:Int),(cg,aW))).2).1):Int) (0:Int)) (some false) ((nQ N x2 (((List.getD x1 x5.toNat ((0:Int),(cg,aW))).2).1)).bind λr9=>cond (!r9) (some false) (cond (aT 0 ((((List.getD x1 x5.toNat ((0:Int),(cg,aW))).2).2).1)) (some false) (HO x1 x2 x5 (List.getD x1 x5.toNat ((0:Int),(cg,aW)))))))))) (none)) (some true)
def iX.l4(N:Nat):Nat→iX.bX
 |0,_,_,_=>none
 |n+1,x1,x2,x5=>iX.eN N (iX.j9 N (iX.l4 N n)) (iX.l4 N n) x1 x2 x5
def iX.b(N:Nat)(fN:iX.bX)(a0:ae)(a1:bE):Option (Bool):=
 (mA N a0).bind λr1=>cond (!r1) (some false) (cond (aT 12 (List.length a1:Int)) (some false) (fN a1 a0 (0:Int)))
def iX(N:Nat)(a0:ae)(a1:bE):Option (Bool):=iX.b N (iX.l4 N N) a0 a1
abbrev q4.cO:=bE→Int→jc→Int→Option (jc×(Bool))
def q4.fy(N:Nat)(dO:q4.cO)(x0:bE)(x1:Int)(x4:jc)(x6:Int):Option (jc×(Bool)):=
 cond (aT x6 (List.length x0:Int)) (cond (aY x6 (List.length x0)) (cond (aN ((List.getD x0 x6.toNat ((0:Int),(cg,aW))).1) x1) (cond (aY x6 (List.length x0)) (some (List.getD x0 x6.toNat ((0:Int),(cg,aW)),true)) (none)) (dO x0 x1 x4 (W .i64 (x6+1)))) (none)) (some (((0:Int),(cg,aW)),false))
def q4.l2(N:Nat):Nat→q4.cO
 |0,_,_,_,_=>none
 |n+1,x0,x1,x4,x6=>q4.fy N (q4.l2 N n) x0 x1 x4 x6
def q4.b(N:Nat)(gG:q4.cO)(a0:bE)(a1:Int):Option (jc×(Bool)):=
 gG a0 a1 ((0:Int),(cg,aW)) (0:Int)
def q4(N:Nat)(a0:bE)(a1:Int):Option (jc×(Bool)):=q4.b N (q4.l2 N N) a0 a1
abbrev e9.fZ:=aD→aD→aD→Int→aJ→Int→Option (aD×(Bool))
abbrev e9.e7:=aD→aD→aD→Int→aJ→Int→Option (aD×(Bool))
abbrev e9.eh:=aD→aD→aD→Int→Option (aD×(Bool))
def e9.kt(N:Nat)(dA:e9.eh)(ia:e9.fZ)(x0:aD)(x1:aD)(x6:aD)(x7:Int)(x8:aJ)(bb:Int):Option (aD×(Bool)):=
 cond (aT bb (List.length x1:Int)) (cond (aY bb (List.length x1)) (cond (aN ((List.getD x1 bb.toNat cv).1) x7) (cond (aY bb (List.length x1)) ((jD N (((List.getD x1 bb.toNat cv).2).1)).bind λr8=>(zT N x8 r8).bind λr9=>ia x0 x1 x6 x7 r9 (W .i64 (bb+1))) (none)) (ia x0 x1 x6 x7 x8 (W .i64 (bb+1)))) (none)) ((Se N x8).bind λpn=>cond (!pn.2) (some ([],false)) (cond (!aN pn.1 0) (cond (small (List.length x6+List.length ([(x7,(pn.1,()))]))) (dA x0 x1 (x6++([(x7,(pn.1,()))])) (W .i64 (x7+1))) (none)) (dA x0 x1 x6 (W .i64 (x7+1)))))
def e9.lx(N:Nat)(dA:e9.eh):Nat→e9.fZ
 |0,_,_,_,_,_,_=>none
 |n+1,x0,x1,x6,x7,x8,bb=>e9.kt N dA (e9.lx N dA n) x0 x1 x6 x7 x8 bb
def e9.p6(N:Nat)(sS:e9.fZ)(dA:e9.eh)(eO:e9.e7)(x0:aD)(x1:aD)(x6:aD)(x7:Int)(x8:aJ)(x9:Int):Option (aD×(Bool)):=
 cond (aT x9 (List.length x0:Int)) (cond (aY x9 (List.length x0)) (cond (aN ((List.getD x0 x9.toNat cv).1) x7) (cond (aY x9 (List.length x0)) ((jD N (((List.getD x0 x9.toNat cv).2).1)).bind λr3=>(zT N x8 r3).bind λr4=>eO x0 x1 x6 x7 r4 (W .i64 (x9+1))) (none)) (eO x0 x1 x6 x7 x8 (W .i64 (x9+1)))) (none)) (sS x0 x1 x6 x7 x8 (0:Int))
def e9.l7(N:Nat)(dA:e9.eh):Nat→e9.e7
 |0,_,_,_,_,_,_=>none
 |n+1,x0,x1,x6,x7,x8,x9=>e9.p6 N (e9.lx N dA N) dA (e9.l7 N dA n) x0 x1 x6 x7 x8 x9
def e9.ob(N:Nat)(uj:e9.e7)(dA:e9.eh)(x0:aD)(x1:aD)(x6:aD)(x7:Int):Option (aD×(Bool)):=
 cond (aT x7 6) (uj x0 x1 x6 x7 (false,p9) (0:Int)) (some (x6,true))
def e9.l3(N:Nat):Nat→e9.eh
 |0,_,_,_,_=>none
 |n+1,x0,x1,x6,x7=>e9.ob N (e9.l7 N (e9.l3 N n) N) (e9.l3 N n) x0 x1 x6 x7
def e9.b(N:Nat)(o4:e9.eh)(a0:aD)(a1:aD):Option (aD×(Bool)):=
 o4 a0 a1 ([]) (0:Int)
def e9(N:Nat)(a0:aD)(a1:aD):Option (aD×(Bool)):=e9.b N (e9.l3 N N) a0 a1
def akP(N:Nat)(a0:bm)(a1:Int):Option au:=
 (m0 N a0).bind λr1=>cond (!r1) (some ([])) ((g8 N a0 a1).bind λr2=>some r2)
abbrev kZ.gm:=aO→ae→an→bT→jc→Int→Int→Option (Int)
abbrev kZ.awh:=bE→aO→ae→an→bT→Option (Int)
def kZ.mF(N:Nat)(iW:kZ.gm)(x3:aO)(x5:ae)(x6:an)(x9:bT)(bc:jc)(ca:Int)(dd:Int):Option (Int):=
 cond (aT dd (List.length x3:Int)) (cond (aY dd (List.length x3)) (cond (aN ((((List.getD x3 dd.toNat aW).2).2).1) x9.2.2.1) (cond (aY dd (List.length x3)) (cond (aN (((List.getD x3 dd.toNat aW).2).1) x9.2.1) (some (4:Int)) (iW x3 x5 x6 x9 bc ca (W .i64 (dd+1)))) (none)) (iW x3 x5 x6 x9 bc ca (W .i64 (dd+1)))) (none)) (cond (aN (List.length x3:Int) 40) (some (5:Int)) ((jD N x9.2.2.2.1).bind λnU=>(jD N (4:Int)).bind λsU=>(jD N bc.2.2.1).bind λtN=>(jE N sU tN).bind λyQ=>(Lo N nU yQ).bind λwR=>cond (aT wR 0) (some (11:Int)) ((y9 N x6.2.2.2.1 ca).bind λBW=>(e9 N BW bc.2.1).bind λMv=>cond (!Mv.2) (some (2:Int)) ((akP N x6.2.2.2.2.2.1 ca).bind λMu=>(qZ N x5 Mv.1 Mu).bind λRs=>(SK N x6 ca).bind λMP=>(jD N MP).bind λEv=>(jD N x9.2.2.2.1).bind λI2=>(RU N Ev I2).bind λKH=>(Lo N KH Rs.1).bind λBX=>cond (aT BX 0) (some (10:Int)) (some (0:Int))))))
def kZ.oi(N:Nat):Nat→kZ.gm
 |0,_,_,_,_,_,_,_=>none
 |n+1,x3,x5,x6,x9,bc,ca,dd=>kZ.mF N (kZ.oi N n) x3 x5 x6 x9 bc ca dd
def kZ.j3b(N:Nat)(vk:kZ.gm)(x2:bE)(x3:aO)(x5:ae)(x6:an)(x9:bT):Option (Int):=
 (Mc N x6 x9.2.2.1).bind λr7=>cond (aN r7 0) (some (3:Int)) (cond (!aN r7 1) (some (7:Int)) ((q4 N x2 x9.2.1).bind λr8=>(zz N x6.2.1 x9.2.2.1).bind λr9=>cond (!r8.2) (some (3:Int)) (cond (!aN r8.1.2.2.2.1 1) (some (3:Int)) (cond (aN r9 0) (some (3:Int)) (vk x3 x5 x6 x9 r8.1 r9 (0:Int))))))
def kZ.j3(N:Nat)(x2:bE)(x3:aO)(x5:ae)(x6:an)(x9:bT):Option (Int):=kZ.j3b N (kZ.oi N N) x2 x3 x5 x6 x9
def kZ.b(N:Nat)(aqQ:kZ.awh)(a0:ae)(a1:an)(a2:bE)(a3:aO)(a4:bT):Option (Int):=
 (cN N a0 a1).bind λr1=>cond (!r1) (some (1:Int)) ((iX N a0 a2).bind λr2=>cond (!r2) (some (1:Int)) ((eQ N a3).bind λr3=>cond (!r3) (some (1:Int)) ((YN N a4).bind λr4=>cond (!r4) (some (1:Int)) (cond (aT 0 (List.length a3:Int)) (let v5:Int:=W .i64 ((List.length a3:Int)-1);cond (aY v5 (List.length a3)) (cond (cZ a4.1 ((List.getD a3 v5.toNat aW).1)) (some (1:Int)) (aqQ a2 a3 a0 a1 a4)) (none)) (aqQ a2 a3 a0 a1 a4)))))
def kZ(N:Nat)(a0:ae)(a1:an)(a2:bE)(a3:aO)(a4:bT):Option (Int):=kZ.b N (kZ.j3 N) a0 a1 a2 a3 a4
def adv(N:Nat)(a0:ae)(a1:an)(a2:bE)(a3:aO)(a4:bT):Option (aO×(Int)):=
 (kZ N a0 a1 a2 a3 a4).bind λr1=>cond (!aN r1 0) (some ([],r1)) (cond (small (List.length cT+List.length a3)) (let v2:List ((Int)×((Int)×((Int)×((Int)×(Unit))))):=cT++a3;cond (small (List.length v2+List.length ([a4]))) (some ((v2++([a4])),(0:Int))) (none)) (none))
abbrev Hp.iu:=aO→Int→bT→bT→Bool→Int→Option (bT×(Bool))
def Hp.tX(N:Nat)(iv:Hp.iu)(x0:aO)(x1:Int)(x4:bT)(x6:bT)(x7:Bool)(x8:Int):Option (bT×(Bool)):=
 cond (aT x8 (List.length x0:Int)) (cond (aY x8 (List.length x0)) (cond (aN (((List.getD x0 x8.toNat aW).2).1) x1) (cond (!x7) (cond (aY x8 (List.length x0)) (iv x0 x1 x4 (List.getD x0 x8.toNat aW) true (W .i64 (x8+1))) (none)) (cond (aY x8 (List.length x0)) (cond (aT x6.2.2.2.1 (((((List.getD x0 x8.toNat aW).2).2).2).1)) (cond (aY x8 (List.length x0)) (iv x0 x1 x4 (List.getD x0 x8.toNat aW) true (W .i64 (x8+1))) (none)) (iv x0 x1 x4 x6 x7 (W .i64 (x8+1)))) (none))) (iv x0 x1 x4 x6 x7 (W .i64 (x8+1)))) (none)) (some (x6,x7))
def Hp.l6(N:Nat):Nat→Hp.iu
 |0,_,_,_,_,_,_=>none
 |n+1,x0,x1,x4,x6,x7,x8=>Hp.tX N (Hp.l6 N n) x0 x1 x4 x6 x7 x8
def Hp.b(N:Nat)(wv:Hp.iu)(a0:aO)(a1:Int):Option (bT×(Bool)):=
 (eQ N a0).bind λr1=>cond (!r1) (some (aW,false)) (wv a0 a1 aW aW false (0:Int))
def Hp(N:Nat)(a0:aO)(a1:Int):Option (bT×(Bool)):=Hp.b N (Hp.l6 N N) a0 a1
abbrev pq.sP:=bE→aO→an→an→au→bJ→bE→Int→jc→bT→Int→Int→Option (an×bE×(Int))
abbrev pq.e7:=bE→aO→an→an→au→bJ→bE→Int→Option (an×bE×(Int))
def pq.wQ(N:Nat)(eO:pq.e7)(HH:pq.sP)(x2:bE)(x3:aO)(x5:an)(x8:an)(aX:au)(bc:bJ)(bU:bE)(ca:Int)(dd:jc)(eI:bT)(iE:Int)(iV:Int):Option (an×bE×(Int)):=
 cond (aT iV (List.length dd.2.1:Int)) (cond (aY iV (List.length dd.2.1)) (cond (aY iV (List.length dd.2.1)) (let v14:Int:=W .i64 (0-(((List.getD dd.2.1 iV.toNat cv).2).1));cond (aY iV (List.length dd.2.1)) (cond (aY iV (List.length dd.2.1)) (cond (small (List.length aX+List.length ([((0:Int),((List.getD dd.2.1 iV.toNat cv).1,(v14,()))),(iE,((List.getD dd.2.1 iV.toNat cv).1,(((List.getD dd.2.1 iV.toNat cv).2).1,())))]))) (HH x2 x3 x5 x8 (aX++([((0:Int),((List.getD dd.2.1 iV.toNat cv).1,(v14,()))),(iE,((List.getD dd.2.1 iV.toNat cv).1,(((List.getD dd.2.1 iV.toNat cv).2).1,())))])) bc bU ca dd eI iE (W .i64 (iV+1))) (none)) (none)) (none)) (none)) (none)) ((jD N eI.2.2.2.1).bind λwR=>(CI N (5:Int) iE (2:Int) (0:Int) wR).bind λBW=>cond (small (List.length bc+List.length BW)) (cond (small (List.length bU+List.length ([dd]))) (eO x2 x3 x5 x8 aX (bc++BW) (bU++([dd])) (W .i64 (ca+1))) (none)) (none))
def pq.xL(N:Nat)(eO:pq.e7):Nat→pq.sP
 |0,_,_,_,_,_,_,_,_,_,_,_,_=>none
 |n+1,x2,x3,x5,x8,aX,bc,bU,ca,dd,eI,iE,iV=>pq.wQ N eO (pq.xL N eO n) x2 x3 x5 x8 aX bc bU ca dd eI iE iV
def pq.p6(N:Nat)(HI:pq.sP)(eO:pq.e7)(x2:bE)(x3:aO)(x5:an)(x8:an)(aX:au)(bc:bJ)(bU:bE)(ca:Int):Option (an×bE×(Int)):=
 cond (aT ca (List.length x2:Int)) (cond (aY ca (List.length x2)) (cond (small (List.length cg+List.length (((List.getD x2 ca.toNat ((0:Int),(cg,aW))).2).1))) (let v5:List ((Int)×((Int)×(Unit))):=cg++(((List.getD x2 ca.toNat ((0:Int),(cg,aW))).2).1);cond (!aN (((((List.getD x2 ca.toNat ((0:Int),(cg,aW))).2).2).2).1) (1:Int)) (cond (small (List.length bU+List.length ([((List.getD x2 ca.toNat ((0:Int),(cg,aW))).1,(v5,((List.getD x2 ca.toNat ((0:Int),(cg,aW))).2).2))]))) (eO x2 x3 x5 x8 aX bc (bU++([((List.getD x2 ca.toNat ((0:Int),(cg,aW))).1,(v5,((List.getD x2 ca.toNat ((0:Int),(cg,aW))).2).2))])) (W .i64 (ca+1))) (none)) ((Hp N x3 ((List.getD x2 ca.toNat ((0:Int),(cg,aW))).1)).bind λr8=>cond (!r8.2) (cond (small (List.length bU+List.length ([((List.getD x2 ca.toNat ((0:Int),(cg,aW))).1,(v5,((((List.getD x2 ca.toNat ((0:Int),(cg,aW))).2).2).1,((3:Int),((((List.getD x2 ca.toNat ((0:Int),(cg,aW))).2).2).2).2))))]))) (eO x2 x3 x5 x8 aX bc (bU++([((List.getD x2 ca.toNat ((0:Int),(cg,aW))).1,(v5,((((List.getD x2 ca.toNat ((0:Int),(cg,aW))).2).2).1,((3:Int),((((List.getD x2 ca.toNat ((0:Int),(cg,aW))).2).2).2).2))))])) (W .i64 (ca+1))) (none)) ((zz N x5.2.1 r8.1.2.2.1).bind λod=>cond (aN od 0) (some ((cg,(cT,(bq,(bq,(de,(dk,())))))),[],(3:Int))) ((Mc N x5 r8.1.2.2.1).bind λpn=>cond (aN pn 0) (some ((cg,(cT,(bq,(bq,(de,(dk,())))))),[],(3:Int))) (HI x2 x3 x5 x8 aX bc bU ca ((List.getD x2 ca.toNat ((0:Int),(cg,aW))).1,(v5,((((List.getD x2 ca.toNat ((0:Int),(cg,aW))).2).2).1,((2:Int),(r8.1.2.2.1,(r8.1.2.2.2.1,((((((List.getD x2 ca.toNat ((0:Int),(cg,aW))).2).2).2).2).2).2)))))) r8.1 od (0:Int)))))) (none)) (none)) ((BG N x5 aX bc).bind λMP=>cond (!aN MP.2 0) (some ((cg,(cT,(bq,(bq,(de,(dk,())))))),[],MP.2)) (some (MP.1,bU,(0:Int))))
def pq.l7(N:Nat):Nat→pq.e7
 |0,_,_,_,_,_,_,_,_=>none
 |n+1,x2,x3,x5,x8,aX,bc,bU,ca=>pq.p6 N (pq.xL N (pq.l7 N n) N) (pq.l7 N n) x2 x3 x5 x8 aX bc bU ca
def pq.b(N:Nat)(uj:pq.e7)(a0:ae)(a1:an)(a2:bE)(a3:aO):Option (an×bE×(Int)):=
 (cN N a0 a1).bind λr1=>cond (!r1) (some ((cg,(cT,(bq,(bq,(de,(dk,())))))),[],(1:Int))) ((iX N a0 a2).bind λr2=>cond (!r2) (some ((cg,(cT,(bq,(bq,(de,(dk,())))))),[],(1:Int))) ((eQ N a3).bind λr3=>cond (!r3) (some ((cg,(cT,(bq,(bq,(de,(dk,())))))),[],(1:Int))) (uj a2 a3 a1 (cg,(cT,(bq,(bq,(de,(dk,())))))) ([]) ([]) ([]) (0:Int))))
def pq(N:Nat)(a0:ae)(a1:an)(a2:bE)(a3:aO):Option (an×bE×(Int)):=pq.b N (pq.l7 N N) a0 a1 a2 a3
abbrev pY.cO:=aD→Int→Option (Bool)
def pY.fy(N:Nat)(dO:pY.cO)(x0:aD)(x3:Int):Option (Bool):=
 cond (aT x3 (List.length x0:Int)) (cond (aY x3 (List.length x0)) (cond (aT ((List.getD x0 x3.toNat cv).1) (1:Int)) (some false) (cond (aY x3 (List.length x0)) (cond (aT 12 ((List.getD x0 x3.toNat cv).1)) (some false) (cond (aY x3 (List.length x0)) (cond (aT (((List.getD x0 x3.toNat cv).2).1) (1:Int)) (some false) (cond (aY x3 (List.length x0)) (cond (aT 4 (((List.getD x0 x3.toNat cv).2).1)) (some false) (cond (aT 0 x3) (cond (aY x3 (List.length x0)) (let v2:Int:=W .i64 (x3-1);cond (aY v2 (List.length x0)) (cond (cZ ((List.getD x0 x3.toNat cv).1) ((List.getD x0 v2.toNat cv).1)) (some false) (dO x0 (W .i64 (x3+1)))) (none)) (none)) (dO x0 (W .i64 (x3+1))))) (none))) (none))) (none))) (none)) (some true)
def pY.l2(N:Nat):Nat→pY.cO
 |0,_,_=>none
 |n+1,x0,x3=>pY.fy N (pY.l2 N n) x0 x3
def pY.b(N:Nat)(gG:pY.cO)(a0:aD):Option (Bool):=
 gG a0 (0:Int)
def pY(N:Nat)(a0:aD):Option (Bool):=pY.b N (pY.l2 N N) a0
abbrev sJ.cO:=(List (Int))→Int→Option (Bool)
def sJ.fy(N:Nat)(dO:sJ.cO)(x0:List (Int))(x3:Int):Option (Bool):=
 cond (aT x3 (List.length x0:Int)) (cond (aY x3 (List.length x0)) (cond (aT (List.getD x0 x3.toNat (0:Int)) (1:Int)) (some false) (cond (aY x3 (List.length x0)) (cond (aT 12 (List.getD x0 x3.toNat (0:Int))) (some false) (cond (aT 0 x3) (cond (aY x3 (List.length x0)) (let v2:Int:=W .i64 (x3-1);cond (aY v2 (List.length x0)) (cond (cZ (List.getD x0 x3.toNat (0:Int)) (List.getD x0 v2.toNat (0:Int))) (some false) (dO x0 (W .i64 (x3+1)))) (none)) (none)) (dO x0 (W .i64 (x3+1))))) (none))) (none)) (some true)
def sJ.l2(N:Nat):Nat→sJ.cO
 |0,_,_=>none
 |n+1,x0,x3=>sJ.fy N (sJ.l2 N n) x0 x3
def sJ.b(N:Nat)(gG:sJ.cO)(a0:List (Int)):Option (Bool):=
 gG a0 (0:Int)
def sJ(N:Nat)(a0:List (Int)):Option (Bool):=sJ.b N (sJ.l2 N N) a0
abbrev jz.fZ:=Int→bE→Int→Int→Option (Int)
abbrev jz.eh:=Int→bE→aO→Int→Int→Option (Int)
def jz.kt(N:Nat)(ia:jz.fZ)(x0:Int)(x1:bE)(x7:Int)(bc:Int):Option (Int):=
 cond (aT bc (List.length x1:Int)) (cond (aY bc (List.length x1)) (cond (aN (((((List.getD x1 bc.toNat ((0:Int),(cg,aW))).2).2).2).1) (2:Int)) (cond (aY bc (List.length x1)) (cond (aN ((((((List.getD x1 bc.toNat ((0:Int),(cg,aW))).2).2).2).2).1) x0) (ia x0 x1 (4:Int) (W .i64 (bc+1))) (ia x0 x1 x7 (W .i64 (bc+1)))) (none)) (ia x0 x1 x7 (W .i64 (bc+1)))) (none)) (some x7)
def jz.lx(N:Nat):Nat→jz.fZ
 |0,_,_,_,_=>none
 |n+1,x0,x1,x7,bc=>jz.kt N (jz.lx N n) x0 x1 x7 bc
def jz.ob(N:Nat)(sS:jz.fZ)(dA:jz.eh)(x0:Int)(x1:bE)(x2:aO)(x7:Int)(x8:Int):Option (Int):=
 cond (aT x8 (List.length x2:Int)) (cond (aY x8 (List.length x2)) (cond (!aN ((((List.getD x2 x8.toNat aW).2).2).1) x0) (dA x0 x1 x2 x7 (W .i64 (x8+1))) (cond (aY x8 (List.length x2)) ((q4 N x1 (((List.getD x2 x8.toNat aW).2).1)).bind λr3=>cond (r3.2) (cond (aY x8 (List.length x2)) (cond (cZ r3.1.2.2.1 (((((List.getD x2 x8.toNat aW).2).2).2).1)) (dA x0 x1 x2 (mx x7 3) (W .i64 (x8+1))) (dA x0 x1 x2 (mx x7 2) (W .i64 (x8+1)))) (none)) (dA x0 x1 x2 (mx x7 2) (W .i64 (x8+1)))) (none))) (none)) (sS x0 x1 x7 (0:Int))
def jz.l3(N:Nat):Nat→jz.eh
 |0,_,_,_,_,_=>none
 |n+1,x0,x1,x2,x7,x8=>jz.ob N (jz.lx N N) (jz.l3 N n) x0 x1 x2 x7 x8
def jz.b(N:Nat)(o4:jz.eh)(a0:Int)(a1:bE)(a2:aO):Option (Int):=
 o4 a0 a1 a2 (1:Int) (0:Int)
def jz(N:Nat)(a0:Int)(a1:bE)(a2:aO):Option (Int):=jz.b N (jz.l3 N N) a0 a1 a2
abbrev dI.yc:=aD→(List (Int))→bE→aO→aD→Int→Int→Bool→Int→Option (aD×(Int))
abbrev dI.ye:=aD→(List (Int))→bE→aO→aD→Int→Int→Bool→Int→Option (aD×(Int))
abbrev dI.mI:=aD→(List (Int))→bE→aO→aD→Int→Int→Bool→Int→Option (aD×(Int))
abbrev dI.bO:=aD→(List (Int))→bE→aO→aD→Int→Option (aD×(Int))
def dI.Et(N:Nat)(bQ:dI.bO)(HS:dI.yc)(x1:aD)(x2:List (Int))(x3:bE)(x4:aO)(bc:aD)(bU:Int)(ca:Int)(dd:Bool)(iE:Int):Option (aD×(Int)):=
 cond (aT iE (List.length x4:Int)) (cond (dd) (HS x1 x2 x3 x4 bc bU ca true (W .i64 (iE+1))) (cond (aY iE (List.length x4)) (HS x1 x2 x3 x4 bc bU ca (aN ((((List.getD x4 iE.toNat aW).2).2).1) bU) (W .i64 (iE+1))) (none))) (cond (dd) ((jz N bU x3 x4).bind λtN=>let v16:Int:=mx ca tN;cond (small (List.length bc+List.length ([(bU,(v16,()))]))) (bQ x1 x2 x3 x4 (bc++([(bU,(v16,()))])) (W .i64 (bU+1))) (none)) (bQ x1 x2 x3 x4 bc (W .i64 (bU+1))))
def dI.Ie(N:Nat)(bQ:dI.bO):Nat→dI.yc
 |0,_,_,_,_,_,_,_,_,_=>none
 |n+1,x1,x2,x3,x4,bc,bU,ca,dd,iE=>dI.Et N bQ (dI.Ie N bQ n) x1 x2 x3 x4 bc bU ca dd iE
def dI.G0(N:Nat)(P7:dI.yc)(bQ:dI.bO)(DX:dI.ye)(x1:aD)(x2:List (Int))(x3:bE)(x4:aO)(bc:aD)(bU:Int)(ca:Int)(dd:Bool)(ei:Int):Option (aD×(Int)):=
 cond (aT ei (List.length x2:Int)) (cond (dd) (DX x1 x2 x3 x4 bc bU ca true (W .i64 (ei+1))) (cond (aY ei (List.length x2)) (DX x1 x2 x3 x4 bc bU ca (aN (List.getD x2 ei.toNat (0:Int)) bU) (W .i64 (ei+1))) (none))) (P7 x1 x2 x3 x4 bc bU ca dd (0:Int))
def dI.JV(N:Nat)(bQ:dI.bO):Nat→dI.ye
 |0,_,_,_,_,_,_,_,_,_=>none
 |n+1,x1,x2,x3,x4,bc,bU,ca,dd,ei=>dI.G0 N (dI.Ie N bQ N) bQ (dI.JV N bQ n) x1 x2 x3 x4 bc bU ca dd ei
def dI.xG(N:Nat)(Qa:dI.ye)(bQ:dI.bO)(qz:dI.mI)(x1:aD)(x2:List (Int))(x3:bE)(x4:aO)(bc:aD)(bU:Int)(ca:Int)(dd:Bool)(eI:Int):Option (aD×(Int)):=
 cond (aT eI (List.length x1:Int)) (cond (aY eI (List.length x1)) (cond (aN ((List.getD x1 eI.toNat cv).1) bU) (cond (aY eI (List.length x1)) (qz x1 x2 x3 x4 bc bU (((List.getD x1 eI.toNat cv).2).1) true (W .i64 (eI+1))) (none)) (qz x1 x2 x3 x4 bc bU ca dd (W .i64 (eI+1)))) (none)) (Qa x1 x2 x3 x4 bc bU ca dd (0:Int))
def dI.l9(N:Nat)(bQ:dI.bO):Nat→dI.mI
 |0,_,_,_,_,_,_,_,_,_=>none
 |n+1,x1,x2,x3,x4,bc,bU,ca,dd,eI=>dI.xG N (dI.JV N bQ N) bQ (dI.l9 N bQ n) x1 x2 x3 x4 bc bU ca dd eI
def dI.eA(N:Nat)(zN:dI.mI)(bQ:dI.bO)(x1:aD)(x2:List (Int))(x3:bE)(x4:aO)(bc:aD)(bU:Int):Option (aD×(Int)):=
 cond (cZ bU 12) (zN x1 x2 x3 x4 bc bU (0:Int) false (0:Int)) (some (bc,(0:Int)))
def dI.l5(N:Nat):Nat→dI.bO
 |0,_,_,_,_,_,_=>none
 |n+1,x1,x2,x3,x4,bc,bU=>dI.eA N (dI.l9 N (dI.l5 N n) N) (dI.l5 N n) x1 x2 x3 x4 bc bU
def dI.b(N:Nat)(ff:dI.bO)(a0:ae)(a1:aD)(a2:List (Int))(a3:bE)(a4:aO):Option (aD×(Int)):=
 (pY N a1).bind λr1=>cond (!r1) (some ([],(1:Int))) ((sJ N a2).bind λr2=>cond (!r2) (some ([],(1:Int))) ((iX N a0 a3).bind λr3=>cond (!r3) (some ([],(1:Int))) ((eQ N a4).bind λr4=>cond (!r4) (some ([],(1:Int))) (ff a1 a2 a3 a4 ([]) (1:Int)))))
def dI(N:Nat)(a0:ae)(a1:aD)(a2:List (Int))(a3:bE)(a4:aO):Option (aD×(Int)):=dI.b N (dI.l5 N N) a0 a1 a2 a3 a4
def Mf(N:Nat)(a0:bs)(a1:an)(a2:Int)(a3:Int)(a4:Int):Option bs:=
 (wF N a1.2.2.1 a3 a4).bind λr1=>cond (aT 0 r1) (cond (small (List.length a0+List.length ([(a2,(a3,(a4,(r1,((0:Int),())))))]))) (some (a0++([(a2,(a3,(a4,(r1,((0:Int),())))))]))) (none)) (some a0)
def Z1(N:Nat)(a0:Int):Option (Bool):=
 cond (aN a0 1) (some true) (some (aN a0 2))
abbrev sK.bX:=aD→Int→Int→Option (Int)
def sK.eN(N:Nat)(cG:sK.bX)(x0:aD)(x1:Int)(x5:Int):Option (Int):=
 cond (aT x5 (List.length x0:Int)) (cond (aY x5 (List.length x0)) (cond (aN ((List.getD x0 x5.toNat cv).1) x1) (cond (aY x5 (List.length x0)) (some (((List.getD x0 x5.toNat cv).2).1)) (none)) (cG x0 x1 (W .i64 (x5+1)))) (none)) (some (1:Int))
def sK.l4(N:Nat):Nat→sK.bX
 |0,_,_,_=>none
 |n+1,x0,x1,x5=>sK.eN N (sK.l4 N n) x0 x1 x5
def sK.b(N:Nat)(fN:sK.bX)(a0:aD)(a1:Int):Option (Int):=
 (pY N a0).bind λr1=>cond (!r1) (some (0:Int)) (fN a0 a1 (0:Int))
def sK(N:Nat)(a0:aD)(a1:Int):Option (Int):=sK.b N (sK.l4 N N) a0 a1
abbrev sL.bO:=aD→Int→Int→an→(List (Int))→Int→Option ((List (Int))×(Int))
def sL.eA(N:Nat)(bQ:sL.bO)(x2:aD)(x3:Int)(x4:Int)(x6:an)(bc:List (Int))(bU:Int):Option ((List (Int))×(Int)):=
 cond (aT bU (List.length x6.1:Int)) (cond (aY bU (List.length x6.1)) ((Z1 N (((List.getD x6.1 bU.toNat cv).2).1)).bind λr4=>cond (r4) (cond (!aN ((List.getD x6.1 bU.toNat cv).1) x3) ((wF N x6.2.2.1 (6:Int) ((List.getD x6.1 bU.toNat cv).1)).bind λr5=>cond (aT 0 r5) ((sK N x2 ((List.getD x6.1 bU.toNat cv).1)).bind λr6=>cond (aN r6 x4) (cond (small (List.length bc+List.length ([(List.getD x6.1 bU.toNat cv).1]))) (bQ x2 x3 x4 x6 (bc++([(List.getD x6.1 bU.toNat cv).1])) (W .i64 (bU+1))) (none)) (bQ x2 x3 x4 x6 bc (W .i64 (bU+1)))) (bQ x2 x3 x4 x6 bc (W .i64 (bU+1)))) (bQ x2 x3 x4 x6 bc (W .i64 (bU+1)))) (bQ x2 x3 x4 x6 bc (W .i64 (bU+1)))) (none)) (some (bc,(0:Int)))
def sL.l5(N:Nat):Nat→sL.bO
 |0,_,_,_,_,_,_=>none
 |n+1,x2,x3,x4,x6,bc,bU=>sL.eA N (sL.l5 N n) x2 x3 x4 x6 bc bU
def sL.b(N:Nat)(ff:sL.bO)(a0:ae)(a1:an)(a2:aD)(a3:Int)(a4:Int):Option ((List (Int))×(Int)):=
 (cN N a0 a1).bind λr1=>cond (!r1) (some ([],(1:Int))) ((pY N a2).bind λr2=>cond (!r2) (some ([],(1:Int))) (ff a2 a3 a4 a1 ([]) (0:Int)))
def sL(N:Nat)(a0:ae)(a1:an)(a2:aD)(a3:Int)(a4:Int):Option ((List (Int))×(Int)):=sL.b N (sL.l5 N N) a0 a1 a2 a3 a4
abbrev cP.mS:=Int→aD→aD→ae→an→bs→Int→(List (Int))→Int→Option (bs×(Int))
abbrev cP.HM:=Int→aD→an→bs→Int→Option (bs×(Int))
abbrev cP.vl:=Int→aD→ae→an→bs→Int→Option (bs×(Int))
abbrev cP.fZ:=Int→aD→aD→ae→an→bs→Int→Option (bs×(Int))
abbrev cP.S5:=Int→aD→aD→ae→an→bs→Option (bs×(Int))
def cP.wP(N:Nat)(ia:cP.fZ)(ov:cP.mS)(x2:Int)(x3:aD)(x4:aD)(x5:ae)(x6:an)(bc:bs)(ca:Int)(dd:List (Int))(ei:Int):Option (bs×(Int)):=
 cond (aT ei (List.length dd:Int)) (cond (aY ei (List.length dd)) ((Mf N bc x6 (W .i64 ((W .i64 ((4:Int)+ca))-1)) (6:Int) (List.getD dd ei.toNat (0:Int))).bind λtN=>ov x2 x3 x4 x5 x6 tN ca dd (W .i64 (ei+1))) (none)) (ia x2 x3 x4 x5 x6 bc (W .i64 (ca+1)))
def cP.xK(N:Nat)(ia:cP.fZ):Nat→cP.mS
 |0,_,_,_,_,_,_,_,_,_=>none
 |n+1,x2,x3,x4,x5,x6,bc,ca,dd,ei=>cP.wP N ia (cP.xK N ia n) x2 x3 x4 x5 x6 bc ca dd ei
def cP.LC(N:Nat)(DV:cP.HM)(x2:Int)(x4:aD)(x6:an)(bc:bs)(W8:Int):Option (bs×(Int)):=
 cond (aT W8 (List.length x4:Int)) (cond (aY W8 (List.length x4)) ((El N x6.2.1 ((List.getD x4 W8.toNat cv).1)).bind λUN=>cond (aY W8 (List.length x4)) (cond (aY W8 (List.length x4)) ((wF N x6.2.2.1 (5:Int) ((List.getD x4 W8.toNat cv).1)).bind λr32=>let v33:Int:=mn (((List.getD x4 W8.toNat cv).2).1) r32;cond (UN.2) (cond (!aN UN.1.2.1 x2) (cond (aT 0 v33) (cond (small (List.length bc+List.length ([((9:Int),((5:Int),(UN.1.1,(v33,((0:Int),())))))]))) (DV x2 x4 x6 (bc++([((9:Int),((5:Int),(UN.1.1,(v33,((0:Int),())))))])) (W .i64 (W8+1))) (none)) (DV x2 x4 x6 bc (W .i64 (W8+1)))) (DV x2 x4 x6 bc (W .i64 (W8+1)))) (DV x2 x4 x6 bc (W .i64 (W8+1)))) (none)) (none)) (none)) (some (bc,(0:Int)))
def cP.OI(N:Nat):Nat→cP.HM
 |0,_,_,_,_,_=>none
 |n+1,x2,x4,x6,bc,W8=>cP.LC N (cP.OI N n) x2 x4 x6 bc W8
def cP.PF(N:Nat)(aaF:cP.HM)(mV:cP.vl)(x2:Int)(x4:aD)(x5:ae)(x6:an)(bc:bs)(iE:Int):Option (bs×(Int)):=
 cond (aT iE (List.length x6.1:Int)) (cond (aY iE (List.length x6.1)) ((Z1 N (((List.getD x6.1 iE.toNat cv).2).1)).bind λMv=>cond (!Mv) (mV x2 x4 x5 x6 bc (W .i64 (iE+1))) (cond (aN ((List.getD x6.1 iE.toNat cv).1) x2) (mV x2 x4 x5 x6 bc (W .i64 (iE+1))) ((jD N x5.2.2.1).bind λMP=>(wF N x6.2.2.1 (6:Int) ((List.getD x6.1 iE.toNat cv).1)).bind λEv=>(jD N Ev).bind λI2=>(jE N MP I2).bind λKH=>(xD N KH).bind λBX=>cond (!BX.2) (some ([],(2:Int))) (cond (aT 0 BX.1) (cond (small (List.length bc+List.length ([((8:Int),((7:Int),((List.getD x6.1 iE.toNat cv).1,(BX.1,((0:Int),())))))]))) (mV x2 x4 x5 x6 (bc++([((8:Int),((7:Int),((List.getD x6.1 iE.toNat cv).1,(BX.1,((0:Int),())))))])) (W .i64 (iE+1))) (none)) (mV x2 x4 x5 x6 bc (W .i64 (iE+1))))))) (none)) (aaF x2 x4 x6 bc (0:Int))
def cP.IV(N:Nat):Nat→cP.vl
 |0,_,_,_,_,_,_=>none
 |n+1,x2,x4,x5,x6,bc,iE=>cP.PF N (cP.OI N N) (cP.IV N n) x2 x4 x5 x6 bc iE
def cP.kt(N:Nat)(HJ:cP.mS)(aaM:cP.vl)(ia:cP.fZ)(x2:Int)(x3:aD)(x4:aD)(x5:ae)(x6:an)(bc:bs)(ca:Int):Option (bs×(Int)):=
 cond (cZ ca 4) ((sL N x5 x6 x3 x2 ca).bind λod=>HJ x2 x3 x4 x5 x6 bc ca od.1 (0:Int)) (aaM x2 x4 x5 x6 bc (0:Int))
def cP.lx(N:Nat):Nat→cP.fZ
 |0,_,_,_,_,_,_,_=>none
 |n+1,x2,x3,x4,x5,x6,bc,ca=>cP.kt N (cP.xK N (cP.lx N n) N) (cP.IV N N) (cP.lx N n) x2 x3 x4 x5 x6 bc ca
def cP.On(N:Nat)(sS:cP.fZ)(x2:Int)(x3:aD)(x4:aD)(x5:ae)(x6:an)(bc:bs):Option (bs×(Int)):=
 (Mf N bc x6 (2:Int) (6:Int) x2).bind λr8=>(Mf N r8 x6 (3:Int) (3:Int) (0:Int)).bind λr9=>sS x2 x3 x4 x5 x6 r9 (1:Int)
def cP.j9(N:Nat)(x2:Int)(x3:aD)(x4:aD)(x5:ae)(x6:an)(bc:bs):Option (bs×(Int)):=cP.On N (cP.lx N N) x2 x3 x4 x5 x6 bc
def cP.b(N:Nat)(HO:cP.S5)(a0:ae)(a1:an)(a2:Int)(a3:aD)(a4:aD):Option (bs×(Int)):=
 (cN N a0 a1).bind λr1=>cond (!r1) (some ([],(1:Int))) ((pY N a3).bind λr2=>cond (!r2) (some ([],(1:Int))) ((q3 N a4).bind λr3=>cond (!r3) (some ([],(1:Int))) ((Bc N a1.1 a2).bind λr4=>cond (aN r4 0) (some ([],(3:Int))) ((zz N a1.2.1 a2).bind λr5=>cond (!aN r5 0) ((Mf N ([]) a1 (1:Int) (5:Int) r5).bind λr6=>HO a2 a3 a4 a0 a1 r6) (HO a2 a3 a4 a0 a1 ([]))))))
def cP(N:Nat)(a0:ae)(a1:an)(a2:Int)(a3:aD)(a4:aD):Option (bs×(Int)):=cP.b N (cP.j9 N) a0 a1 a2 a3 a4
def adw(N:Nat)(a0:ae)(a1:an):Option ((Int)×(Int)):=
 (cN N a0 a1).bind λr1=>cond (!r1) (some ((0:Int),(1:Int))) ((wF N a1.2.2.1 (2:Int) (0:Int)).bind λr2=>cond (aN r2 (-9223372036854775808)) (some ((0:Int),(2:Int))) (some ((mx (W .i64 (0-r2)) (0:Int)),(0:Int))))
abbrev sM.bX:=bs→Int→Option (Bool)
def sM.eN(N:Nat)(cG:sM.bX)(x0:bs)(x3:Int):Option (Bool):=
 cond (aT x3 (List.length x0:Int)) (cond (aY x3 (List.length x0)) (cond (aT ((List.getD x0 x3.toNat gu).1) (1:Int)) (some false) (cond (aT 9 ((List.getD x0 x3.toNat gu).1)) (some false) ((RY N (((List.getD x0 x3.toNat gu).2).1) ((((List.getD x0 x3.toNat gu).2).2).1)).bind λr2=>cond (!r2) (some false) (cond (aT (((((List.getD x0 x3.toNat gu).2).2).2).1) (1:Int)) (some false) (cond (aT ((((((List.getD x0 x3.toNat gu).2).2).2).2).1) (0:Int)) (some false) (cond (aT (((((List.getD x0 x3.toNat gu).2).2).2).1) ((((((List.getD x0 x3.toNat gu).2).2).2).2).1)) (some false) (cond (aT 0 x3) (let v3:Int:=W .i64 (x3-1);cond (aY v3 (List.length x0)) (cond (aT ((List.getD x0 x3.toNat gu).1) ((List.getD x0 v3.toNat gu).1)) (some false) (let v4:Int:=W .i64 (x3-1);cond (aY v4 (List.length x0)) (cond (aN ((List.getD x0 x3.toNat gu).1) ((List.getD x0 v4.toNat gu).1)) (let v5:Int:=W .i64 (x3-1);cond (aY v5 (List.length x0)) (cond (!aN (((List.getD x0 x3.toNat gu).2).1) (((List.getD x0 v5.toNat gu).2).1)) (some false) (let v6:Int:=W .i64 (x3-1);cond (aY v6 (List.length x0)) (cond (cZ ((((List.getD x0 x3.toNat gu).2).2).1) ((((List.getD x0 v6.toNat gu).2).2).1)) (some false) (cG x0 (W .i64 (x3+1)))) (none))) (none)) (cG x0 (W .i64 (x3+1)))) (none))) (none)) (cG x0 (W .i64 (x3+1)))))))))) (none)) (some true)
def sM.l4(N:Nat):Nat→sM.bX
 |0,_,_=>none
 |n+1,x0,x3=>sM.eN N (sM.l4 N n) x0 x3
def sM.b(N:Nat)(fN:sM.bX)(a0:bs):Option (Bool):=
 cond (aT 64 (List.length a0:Int)) (some false) (fN a0 (0:Int))
def sM(N:Nat)(a0:bs):Option (Bool):=sM.b N (sM.l4 N N) a0
abbrev dN.yc:=bs→Int→Int→Int→(List (Int))→Int→Option (bs×(Int)×(Int))
abbrev dN.P6:=bs→Int→Int→Int→(List (Int))→Option (bs×(Int)×(Int))
abbrev dN.jq:=bs→Int→Int→Int→(List (Int))→Option (bs×(Int)×(Int))
abbrev dN.bO:=bs→Int→Int→Option (bs×(Int)×(Int))
def dN.Et(N:Nat)(bQ:dN.bO)(HS:dN.yc)(x7:bs)(x8:Int)(x9:Int)(bb:Int)(ca:List (Int))(eI:Int):Option (bs×(Int)×(Int)):=
 cond (aT eI bb) (let v13:Int:=W .i64 (eI-x9);cond (aY v13 (List.length ca)) (cond (aY eI (List.length x7)) (let v15:Int:=W .i64 (eI-x9);cond (aY v15 (List.length ca)) (HS (List.set x7 eI.toNat ((List.getD x7 eI.toNat gu).1,(((List.getD x7 eI.toNat gu).2).1,((((List.getD x7 eI.toNat gu).2).2).1,(((((List.getD x7 eI.toNat gu).2).2).2).1,(List.getD ca v13.toNat (0:Int),(((((List.getD x7 eI.toNat gu).2).2).2).2).2)))))) (W .i64 (x8-(List.getD ca v15.toNat (0:Int)))) x9 bb ca (W .i64 (eI+1))) (none)) (none)) (none)) (bQ x7 x8 bb)
def dN.Ie(N:Nat)(bQ:dN.bO):Nat→dN.yc
 |0,_,_,_,_,_,_=>none
 |n+1,x7,x8,x9,bb,ca,eI=>dN.Et N bQ (dN.Ie N bQ n) x7 x8 x9 bb ca eI
def dN.CG(N:Nat)(P7:dN.yc)(bQ:dN.bO)(x7:bs)(x8:Int)(x9:Int)(bb:Int)(aX:List (Int)):Option (bs×(Int)×(Int)):=
 (qg N aX).bind λr8=>(xD N r8).bind λr9=>cond (!r9.2) (some ([],(0:Int),(2:Int))) ((fK N (mn r9.1 x8) aX).bind λod=>cond (!aN od.2 0) (some ([],(0:Int),od.2)) (P7 x7 x8 x9 bb od.1 x9))
def dN.Kl(N:Nat)(bQ:dN.bO)(x7:bs)(x8:Int)(x9:Int)(bb:Int)(aX:List (Int)):Option (bs×(Int)×(Int)):=dN.CG N (dN.Ie N bQ N) bQ x7 x8 x9 bb aX
def dN.Dy(N:Nat)(DW:dN.P6)(bQ:dN.bO)(fQ:dN.jq)(x7:bs)(x8:Int)(x9:Int)(bb:Int)(aX:List (Int)):Option (bs×(Int)×(Int)):=
 cond (aT bb (List.length x7:Int)) (cond (aY bb (List.length x7)) (cond (aY x9 (List.length x7)) (cond (aN ((List.getD x7 bb.toNat gu).1) ((List.getD x7 x9.toNat gu).1)) (cond (aY bb (List.length x7)) (cond (small (List.length aX+List.length ([((((List.getD x7 bb.toNat gu).2).2).2).1]))) (fQ x7 x8 x9 (W .i64 (bb+1)) (aX++([((((List.getD x7 bb.toNat gu).2).2).2).1]))) (none)) (none)) (DW x7 x8 x9 bb aX)) (none)) (none)) (DW x7 x8 x9 bb aX)
def dN.l8(N:Nat)(bQ:dN.bO):Nat→dN.jq
 |0,_,_,_,_,_=>none
 |n+1,x7,x8,x9,bb,aX=>dN.Dy N (dN.Kl N bQ) bQ (dN.l8 N bQ n) x7 x8 x9 bb aX
def dN.eA(N:Nat)(HQ:dN.jq)(bQ:dN.bO)(x7:bs)(x8:Int)(x9:Int):Option (bs×(Int)×(Int)):=
 cond (aT x9 (List.length x7:Int)) (HQ x7 x8 x9 x9 ([])) (some (x7,x8,(0:Int)))
def dN.l5(N:Nat):Nat→dN.bO
 |0,_,_,_=>none
 |n+1,x7,x8,x9=>dN.eA N (dN.l8 N (dN.l5 N n) N) (dN.l5 N n) x7 x8 x9
def dN.b(N:Nat)(ff:dN.bO)(a0:bs)(a1:Int):Option (bs×(Int)×(Int)):=
 (sM N a0).bind λr1=>cond (!r1) (some ([],(0:Int),(1:Int))) (cond (aT a1 0) (some ([],(0:Int),(1:Int))) (cond (small (List.length EF+List.length a0)) (ff (EF++a0) a1 (0:Int)) (none)))
def dN(N:Nat)(a0:bs)(a1:Int):Option (bs×(Int)×(Int)):=dN.b N (dN.l5 N N) a0 a1
def adx(N:Nat)(a0:ae)(a1:an):Option ((Int)×(Int)):=
 (cN N a0 a1).bind λr1=>cond (!r1) (some ((0:Int),(1:Int))) ((wF N a1.2.2.1 (2:Int) (0:Int)).bind λr2=>some ((mx r2 0),(0:Int)))
abbrev ir.aqR:=an→an→dV→bJ→dV→bs→Int→Int→Int→Option (an×dV×(Int))
abbrev ir.HR:=Int→ae→an→an→dV→bs→Int→bJ→dV→bs→Int→Option (an×dV×(Int))
def ir.adz(N:Nat)(x6:an)(bb:an)(aX:dV)(iE:bJ)(iV:dV)(HU:bs)(x21:Int)(x23:Int)(x24:Int):Option (an×dV×(Int)):=
 (jD N x21).bind λwR=>(CI N (2:Int) (0:Int) x23 x24 wR).bind λBW=>cond (small (List.length iE+List.length BW)) ((BG N x6 bq (iE++BW)).bind λMu=>cond (!aN Mu.2 0) (some ((cg,(cT,(bq,(bq,(de,(dk,())))))),((0:Int),((0:Int),(EF,((0:Int),())))),Mu.2)) (some (Mu.1,(iV.1,(iV.2.1,(HU,iV.2.2.2))),(0:Int)))) (none)
def ir.j26(N:Nat)(x6:an)(bb:an)(aX:dV)(iE:bJ)(iV:dV)(HU:bs)(x21:Int)(x23:Int)(x24:Int):Option (an×dV×(Int)):=ir.adz N x6 bb aX iE iV HU x21 x23 x24
def ir.IM(N:Nat)(aiT:ir.aqR)(KI:ir.HR)(x2:Int)(x5:ae)(x6:an)(bb:an)(aX:dV)(bU:bs)(ei:Int)(iE:bJ)(iV:dV)(HU:bs)(zV:Int):Option (an×dV×(Int)):=
 cond (aT zV (List.length bU:Int)) (cond (aY zV (List.length bU)) (cond (aT 0 ((((((List.getD bU zV.toNat gu).2).2).2).2).1)) (cond (aY zV (List.length bU)) (cond (small (List.length HU+List.length ([List.getD bU zV.toNat gu]))) (cond (aY zV (List.length bU)) (cond (aY zV (List.length bU)) (cond (aY zV (List.length bU)) ((jD N ((((((List.getD bU zV.toNat gu).2).2).2).2).1)).bind λr6=>(CI N (((List.getD bU zV.toNat gu).2).1) ((((List.getD bU zV.toNat gu).2).2).1) (2:Int) (0:Int) r6).bind λr7=>cond (small (List.length iE+List.length r7)) (KI x2 x5 x6 bb aX bU ei (iE++r7) (iV.1,(iV.2.1,(EF,iV.2.2.2))) (HU++([List.getD bU zV.toNat gu])) (W .i64 (zV+1))) (none)) (none)) (none)) (none)) (none)) (none)) (KI x2 x5 x6 bb aX bU ei iE iV HU (W .i64 (zV+1)))) (none)) ((jD N ei).bind λod=>(CI N (4:Int) (0:Int) (2:Int) (0:Int) od).bind λpn=>cond (small (List.length iE+List.length pn)) (let v13:List ((Int)×((Int)×(((Bool)×((List (Int))×(Unit)))×(Unit)))):=iE++pn;(adx N x5 x6).bind λsU=>(zz N x6.2.1 x2).bind λtN=>cond (!aN tN 0) (aiT x6 bb aX v13 iV HU sU.1 (5:Int) tN) (aiT x6 bb aX v13 iV HU sU.1 (6:Int) x2)) (none))
def ir.JG(N:Nat):Nat→ir.HR
 |0,_,_,_,_,_,_,_,_,_,_,_=>none
 |n+1,x2,x5,x6,bb,aX,bU,ei,iE,iV,HU,zV=>ir.IM N (ir.j26 N) (ir.JG N n) x2 x5 x6 bb aX bU ei iE iV HU zV
def ir.b(N:Nat)(aaJ:ir.HR)(a0:ae)(a1:an)(a2:Int)(a3:aD)(a4:aD):Option (an×dV×(Int)):=
 (cP N a0 a1 a2 a3 a4).bind λr1=>cond (aN r1.2 1) (some ((cg,(cT,(bq,(bq,(de,(dk,())))))),((0:Int),((0:Int),(EF,((0:Int),())))),r1.2)) (cond (aN r1.2 3) (some ((cg,(cT,(bq,(bq,(de,(dk,())))))),((0:Int),((0:Int),(EF,((0:Int),())))),r1.2)) ((adw N a0 a1).bind λr2=>cond (!aN r2.2 0) (some ((cg,(cT,(bq,(bq,(de,(dk,())))))),((0:Int),((0:Int),(EF,((0:Int),())))),r2.2)) (cond (!aN r1.2 0) (some ((cg,(cT,(bq,(bq,(de,(dk,())))))),((0:Int),((0:Int),(EF,((0:Int),())))),r1.2)) ((dN N r1.1 r2.1).bind λr3=>cond (!aN r3.2.2 0) (some ((cg,(cT,(bq,(bq,(de,(dk,())))))),((0:Int),((0:Int),(EF,((0:Int),())))),r3.2.2)) (aaJ a2 a0 a1 (cg,(cT,(bq,(bq,(de,(dk,())))))) ((0:Int),((0:Int),(EF,((0:Int),())))) r3.1 r3.2.1 ([]) (a2,(r2.1,(EF,(r3.2.1,())))) EF (0:Int))))))
def ir(N:Nat)(a0:ae)(a1:an)(a2:Int)(a3:aD)(a4:aD):Option (an×dV×(Int)):=ir.b N (ir.JG N N) a0 a1 a2 a3 a4
abbrev eZ.HL:=(List (Int))→(List (Int))→(List (Int))→Int→Int→(List (Int))→Int→Option ((List (Int))×(Int)×(Int))
abbrev eZ.fZ:=(List (Int))→(List (Int))→(List (Int))→Int→Int→(List (Int))→Bool→Int→Option ((List (Int))×(Int)×(Int))
abbrev eZ.jq:=(List (Int))→(List (Int))→(List (Int))→Int→Int→Option ((List (Int))×(Int)×(Int))
def eZ.Sg(N:Nat)(fQ:eZ.jq)(aaE:eZ.HL)(x1:List (Int))(x2:List (Int))(aX:List (Int))(bc:Int)(bU:Int)(ei:List (Int))(iV:Int):Option ((List (Int))×(Int)×(Int)):=
 cond (aT iV (List.length x1:Int)) (cond (aY iV (List.length ei)) (cond (aY iV (List.length x2)) (cond (aY iV (List.length aX)) (let v16:Int:=mn (List.getD ei iV.toNat (0:Int)) (W .i64 ((List.getD x2 iV.toNat (0:Int))-(List.getD aX iV.toNat (0:Int))));cond (aY iV (List.length aX)) (cond (aY iV (List.length aX)) (aaE x1 x2 (List.set aX iV.toNat (W .i64 ((List.getD aX iV.toNat (0:Int))+v16))) (W .i64 (bc-v16)) bU ei (W .i64 (iV+1))) (none)) (none)) (none)) (none)) (none)) (fQ x1 x2 aX bc (W .i64 (bU+1)))
def eZ.V1(N:Nat)(fQ:eZ.jq):Nat→eZ.HL
 |0,_,_,_,_,_,_,_=>none
 |n+1,x1,x2,aX,bc,bU,ei,iV=>eZ.Sg N fQ (eZ.V1 N fQ n) x1 x2 aX bc bU ei iV
def eZ.kt(N:Nat)(aaG:eZ.HL)(fQ:eZ.jq)(ia:eZ.fZ)(x1:List (Int))(x2:List (Int))(aX:List (Int))(bc:Int)(bU:Int)(ca:List (Int))(dd:Bool)(eI:Int):Option ((List (Int))×(Int)×(Int)):=
 cond (aT eI (List.length x1:Int)) (cond (aY eI (List.length x1)) (cond (aT 0 (List.getD x1 eI.toNat (0:Int))) (cond (aY eI (List.length aX)) (cond (aY eI (List.length x2)) (cond (aT (List.getD aX eI.toNat (0:Int)) (List.getD x2 eI.toNat (0:Int))) (cond (aY eI (List.length x1)) (cond (aY eI (List.length ca)) (ia x1 x2 aX bc bU (List.set ca eI.toNat (List.getD x1 eI.toNat (0:Int))) true (W .i64 (eI+1))) (none)) (none)) (ia x1 x2 aX bc bU ca dd (W .i64 (eI+1)))) (none)) (none)) (ia x1 x2 aX bc bU ca dd (W .i64 (eI+1)))) (none)) (cond (aN bc 0) (some (aX,bc,(0:Int))) (cond (!dd) (some (aX,bc,(0:Int))) ((fK N bc ca).bind λnU=>aaG x1 x2 aX bc bU nU.1 (0:Int))))
def eZ.lx(N:Nat)(fQ:eZ.jq):Nat→eZ.fZ
 |0,_,_,_,_,_,_,_,_=>none
 |n+1,x1,x2,aX,bc,bU,ca,dd,eI=>eZ.kt N (eZ.V1 N fQ N) fQ (eZ.lx N fQ n) x1 x2 aX bc bU ca dd eI
def eZ.Dy(N:Nat)(sS:eZ.fZ)(fQ:eZ.jq)(x1:List (Int))(x2:List (Int))(aX:List (Int))(bc:Int)(bU:Int):Option ((List (Int))×(Int)×(Int)):=
 cond (cZ bU (List.length x1:Int)) (cond (jA (List.length x1:Int) (List.length x1:Int)) (sS x1 x2 aX bc bU (List.replicate (List.length x1:Int).toNat (0:Int)) false (0:Int)) (none)) (some (aX,bc,(0:Int)))
def eZ.l8(N:Nat):Nat→eZ.jq
 |0,_,_,_,_,_=>none
 |n+1,x1,x2,aX,bc,bU=>eZ.Dy N (eZ.lx N (eZ.l8 N n) N) (eZ.l8 N n) x1 x2 aX bc bU
def eZ.b(N:Nat)(HQ:eZ.jq)(a0:Int)(a1:List (Int))(a2:List (Int)):Option ((List (Int))×(Int)×(Int)):=
 (qu N a0 a1).bind λr1=>cond (r1) (some ([],(0:Int),(1:Int))) (cond (!aN (List.length a2:Int) (List.length a1:Int)) (some ([],(0:Int),(1:Int))) ((qu N (0:Int) a2).bind λr2=>cond (r2) (some ([],(0:Int),(1:Int))) ((qg N a1).bind λr3=>(xD N r3).bind λr4=>cond (!r4.2) (some ([],(0:Int),(2:Int))) (cond (jA (List.length a1:Int) (List.length a1:Int)) (HQ a1 a2 (List.replicate (List.length a1:Int).toNat (0:Int)) a0 (0:Int)) (none)))))
def eZ(N:Nat)(a0:Int)(a1:List (Int))(a2:List (Int)):Option ((List (Int))×(Int)×(Int)):=eZ.b N (eZ.l8 N N) a0 a1 a2
abbrev oZ.aaN:=Int→Int→(List (Int))→(List (Int))→au→Int→Option (au×(Int))
abbrev oZ.yd:=Int→an→Int→(List (Int))→(List (Int))→Int→Option (au×(Int))
def oZ.Z2(N:Nat)(UO:oZ.aaN)(x2:Int)(x8:Int)(x9:List (Int))(bU:List (Int))(eI:au)(ei:Int):Option (au×(Int)):=
 cond (aT ei (List.length bU:Int)) (cond (aY ei (List.length bU)) (cond (aT x8 0) (let v17:Int:=W .i64 (0-(List.getD bU ei.toNat (0:Int)));cond (!aN v17 0) (cond (aY ei (List.length x9)) (cond (small (List.length eI+List.length ([(List.getD x9 ei.toNat (0:Int),(x2,(v17,())))]))) (UO x2 x8 x9 bU (eI++([(List.getD x9 ei.toNat (0:Int),(x2,(v17,())))])) (W .i64 (ei+1))) (none)) (none)) (UO x2 x8 x9 bU eI (W .i64 (ei+1)))) (cond (!aN (List.getD bU ei.toNat (0:Int)) (0:Int)) (cond (aY ei (List.length x9)) (cond (small (List.length eI+List.length ([(List.getD x9 ei.toNat (0:Int),(x2,(List.getD bU ei.toNat (0:Int),())))]))) (UO x2 x8 x9 bU (eI++([(List.getD x9 ei.toNat (0:Int),(x2,(List.getD bU ei.toNat (0:Int),())))])) (W .i64 (ei+1))) (none)) (none)) (UO x2 x8 x9 bU eI (W .i64 (ei+1))))) (none)) (some (eI,(0:Int)))
def oZ.WN(N:Nat):Nat→oZ.aaN
 |0,_,_,_,_,_,_=>none
 |n+1,x2,x8,x9,bU,eI,ei=>oZ.Z2 N (oZ.WN N n) x2 x8 x9 bU eI ei
def oZ.zL(N:Nat)(aqS:oZ.aaN)(BQ:oZ.yd)(x2:Int)(x4:an)(x8:Int)(x9:List (Int))(bb:List (Int))(aX:Int):Option (au×(Int)):=
 cond (aT aX (List.length x4.2.2.2.1:Int)) (cond (aY aX (List.length x4.2.2.2.1)) (cond (!aN ((List.getD x4.2.2.2.1 aX.toNat a6).1) (0:Int)) (cond (aN (((List.getD x4.2.2.2.1 aX.toNat a6).2).1) x2) (cond (!(p8 .bool (aT 0 ((((List.getD x4.2.2.2.1 aX.toNat a6).2).2).1)) (aT 0 x8))) (cond (small (List.length x9+List.length ([(List.getD x4.2.2.2.1 aX.toNat a6).1]))) (let v6:Int:=mx ((((List.getD x4.2.2.2.1 aX.toNat a6).2).2).1) (W .i64 (0-((((List.getD x4.2.2.2.1 aX.toNat a6).2).2).1)));cond (small (List.length bb+List.length ([v6]))) (BQ x2 x4 x8 (x9++([(List.getD x4.2.2.2.1 aX.toNat a6).1])) (bb++([v6])) (W .i64 (aX+1))) (none)) (none)) (BQ x2 x4 x8 x9 bb (W .i64 (aX+1)))) (BQ x2 x4 x8 x9 bb (W .i64 (aX+1)))) (BQ x2 x4 x8 x9 bb (W .i64 (aX+1)))) (none)) ((eZ N (mx x8 (W .i64 (0-x8))) bb bb).bind λsU=>cond (!aN sU.2.2 0) (some ([],sU.2.2)) (aqS x2 x8 x9 sU.1 ([((0:Int),(x2,((W .i64 (0-x8)),())))]) (0:Int)))
def oZ.CE(N:Nat):Nat→oZ.yd
 |0,_,_,_,_,_,_=>none
 |n+1,x2,x4,x8,x9,bb,aX=>oZ.zL N (oZ.WN N N) (oZ.CE N n) x2 x4 x8 x9 bb aX
def oZ.b(N:Nat)(P9:oZ.yd)(a0:ae)(a1:an)(a2:Int):Option (au×(Int)):=
 (cN N a0 a1).bind λr1=>cond (!r1) (some ([],(1:Int))) (cond (aT a2 0) (some ([],(3:Int))) (cond (cZ (List.length a0.1:Int) a2) (some ([],(3:Int))) ((BV N a1.2.2.2.1 (0:Int) a2).bind λr2=>cond (aN r2 0) (some ([],(0:Int))) (P9 a2 a1 r2 ([]) ([]) (0:Int)))))
def oZ(N:Nat)(a0:ae)(a1:an)(a2:Int):Option (au×(Int)):=oZ.b N (oZ.CE N N) a0 a1 a2
abbrev BJ.bO:=ae→an→an→au→Int→Option (an×(Int))
def BJ.eA(N:Nat)(bQ:BJ.bO)(x2:ae)(x3:an)(x4:an)(x6:au)(x7:Int):Option (an×(Int)):=
 cond (aT x7 (List.length x2.1:Int)) ((oZ N x2 x3 x7).bind λr3=>cond (!aN r3.2 0) (some ((cg,(cT,(bq,(bq,(de,(dk,())))))),r3.2)) (cond (small (List.length x6+List.length r3.1)) (bQ x2 x3 x4 (x6++r3.1) (W .i64 (x7+1))) (none))) ((BG N x3 x6 ([]:List ((Int)×((Int)×(((Bool)×((List (Int))×(Unit)))×(Unit)))))).bind λr6=>some (r6.1,r6.2))
def BJ.l5(N:Nat):Nat→BJ.bO
 |0,_,_,_,_,_=>none
 |n+1,x2,x3,x4,x6,x7=>BJ.eA N (BJ.l5 N n) x2 x3 x4 x6 x7
def BJ.b(N:Nat)(ff:BJ.bO)(a0:ae)(a1:an):Option (an×(Int)):=
 (cN N a0 a1).bind λr1=>cond (!r1) (some ((cg,(cT,(bq,(bq,(de,(dk,())))))),(1:Int))) (ff a0 a1 (cg,(cT,(bq,(bq,(de,(dk,())))))) ([]) (0:Int))
def BJ(N:Nat)(a0:ae)(a1:an):Option (an×(Int)):=BJ.b N (BJ.l5 N N) a0 a1
abbrev n7.aaO:=aV→aV→cK→bE→Int→Int→Option (aV×cK)
def n7.adE(N:Nat)(aiU:n7.aaO)(x4:aV)(x6:aV)(x7:cK)(ca:bE)(eI:Int)(ei:Int):Option (aV×cK):=
 cond (aT ei (List.length ca:Int)) (cond (aY ei (List.length ca)) (cond (aN (((((List.getD ca ei.toNat ((0:Int),(cg,aW))).2).2).2).1) (2:Int)) (aiU x4 x6 x7 ca (W .i64 (eI+1)) (W .i64 (ei+1))) (aiU x4 x6 x7 ca eI (W .i64 (ei+1)))) (none)) (some (x4,((0:Int),(eI,((0:Int),())))))
def n7.l41(N:Nat):Nat→n7.aaO
 |0,_,_,_,_,_,_=>none
 |n+1,x4,x6,x7,ca,eI,ei=>n7.adE N (n7.l41 N n) x4 x6 x7 ca eI ei
def n7.b(N:Nat)(aqT:n7.aaO)(a0:ae)(a1:aV)(a2:g9):Option (aV×cK):=
 cond (aN a2.1 14) ((WD N a0 a1.2.2.1 a1.2.2.2.1.1 a2.2.1 a2.2.2.1).bind λr1=>(fC N r1.2).bind λr2=>some ((a1.1,(a1.2.1,(r1.1,a1.2.2.2))),r2)) (cond (aN a2.1 15) ((gA N a0 a1.2.2.1 a1.2.2.2.1.1).bind λr3=>(fC N r3.2).bind λr4=>some ((a1.1,(a1.2.1,(r3.1,((a1.2.2.2.1.1,((2:Int),((0:Int),a1.2.2.2.1.2.2.2))),a1.2.2.2.2)))),r4)) (cond (aN a2.1 16) ((wj N a0 a1.2.2.1 a1.2.1).bind λr5=>some ((a1.1,((W .i64 (a1.2.1+(List.length r5.1:Int))),(a1.2.2.1,((a1.2.2.2.1.1,(a1.2.2.2.1.2.1,(a1.2.2.2.1.2.2.1,(a1.2.2.2.1.2.2.2.1,(r5.1,a1.2.2.2.1.2.2.2.2.2))))),a1.2.2.2.2)))),(r5.2,((List.length r5.1:Int),((0:Int),()))))) (cond (aN a2.1 17) ((n6 N a0 a1 a2).bind λr7=>some (r7.1,r7.2)) (cond (aN a2.1 18) (cond (aN a1.2.2.2.1.2.2.2.1 3) ((fC N (5:Int)).bind λr8=>some (a1,r8)) ((eH N a0 a1.2.2.1 a1.2.1).bind λr9=>cond (!aN r9.2 0) ((fC N r9.2).bind λkF=>some (a1,kF)) ((WQ N a1 a0.2.2.2.2.1).bind λod=>cond (!od.2) ((fC N (2:Int)).bind λpn=>some (a1,pn)) ((sI N a0 a1.2.2.1).bind λsU=>some ((a1.1,((W .i64 (a1.2.1+(List.length r9.1:Int))),(a1.2.2.1,((a1.2.2.2.1.1,((3:Int),(od.1,((W .i64 (a1.2.2.2.1.2.2.2.1+1)),(cT,(r9.1,(cT,(sU.1,a1.2.2.2.1.2.2.2.2.2.2.2.2)))))))),a1.2.2.2.2)))),((0:Int),((List.length r9.1:Int),((0:Int),())))))))) (cond (aN a2.1 19) ((adv N a0 a1.2.2.1 a1.2.2.2.1.2.2.2.2.2.1 a1.2.2.2.1.2.2.2.2.2.2.1 (a1.2.1,(a2.2.2.2.2.2.1,(a2.2.1,(a2.2.2.2.2.2.2.2.1,()))))).bind λyQ=>let v17:Int:=W .i64 (a1.2.1+1);some ((a1.1,(v17,(a1.2.2.1,((a1.2.2.2.1.1,(a1.2.2.2.1.2.1,(a1.2.2.2.1.2.2.1,(a1.2.2.2.1.2.2.2.1,(a1.2.2.2.1.2.2.2.2.1,(a1.2.2.2.1.2.2.2.2.2.1,(yQ.1,a1.2.2.2.1.2.2.2.2.2.2.2))))))),a1.2.2.2.2)))),(yQ.2,((W .i64 (v17-1)),((0:Int),()))))) (cond (aN a2.1 20) ((pq N a0 a1.2.2.1 a1.2.2.2.1.2.2.2.2.2.1 a1.2.2.2.1.2.2.2.2.2.2.1).bind λMv=>cond (!aN Mv.2.2 0) ((fC N Mv.2.2).bind λMu=>some (a1,Mu)) ((dI N a0 a1.2.2.2.1.2.2.2.2.2.2.2.2.1 a1.2.2.2.1.2.2.2.2.2.2.2.1 Mv.2.1 a1.2.2.2.1.2.2.2.2.2.2.1).bind λRs=>aqT (a1.1,(a1.2.1,(Mv.1,((a1.2.2.2.1.1,((2:Int),((0:Int),(a1.2.2.2.1.2.2.2.1,(a1.2.2.2.1.2.2.2.2.1,(Mv.2.1,(a1.2.2.2.1.2.2.2.2.2.2.1,(a1.2.2.2.1.2.2.2.2.2.2.2.1,(Rs.1,a1.2.2.2.1.2.2.2.2.2.2.2.2.2))))))))),a1.2.2.2.2)))) ((0:Int),((0:Int),((cg,(cT,(bq,(bq,(de,(dk,())))))),(((0:Int),((0:Int),((0:Int),((0:Int),(cT,(([]:List ((Int)×((List ((Int)×((Int)×(Unit))))×((Int)×((Int)×((Int)×((Int)×(Unit)))))))),(cT,(de,(cg,(cg,())))))))))),(((0:Int),((0:Int),(EF,((0:Int),())))),()))))) a6 Mv.2.1 (0:Int) (0:Int))) (cond (aN a2.1 21) ((ir N a0 a1.2.2.1 a1.2.2.2.1.1 a1.2.2.2.1.2.2.2.2.2.2.2.2.1 a1.2.2.2.1.2.2.2.2.2.2.2.2.2.1).bind λBX=>cond (!aN BX.2.2 0) ((fC N BX.2.2).bind λW7=>some (a1,W7)) ((BJ N a0 BX.1).bind λr28=>cond (!aN r28.2 0) ((fC N r28.2).bind λKF=>some (a1,KF)) ((lV N r28.1.1 a1.2.2.2.1.1 a2.1).bind λS4=>some ((a1.1,(a1.2.1,((S4.1,r28.1.2),(((0:Int),((0:Int),((0:Int),((0:Int),(cT,(([]:List ((Int)×((List ((Int)×((Int)×(Unit))))×((Int)×((Int)×((Int)×((Int)×(Unit)))))))),(cT,(de,(cg,(cg,())))))))))),(BX.2.1,a1.2.2.2.2.2))))),(S4.2,((0:Int),(BX.2.1.2.1,()))))))) ((fC N (0:Int)).bind λUN=>some (a1,UN)))))))))
def n7(N:Nat)(a0:ae)(a1:aV)(a2:g9):Option (aV×cK):=n7.b N (n7.l41 N N) a0 a1 a2
abbrev qy.aaL:=ae→aV→g9→aV→cK→Option (aV×cK)
def qy.PG(N:Nat)(x3:ae)(x4:aV)(x5:g9)(x6:aV)(x7:cK):Option (aV×cK):=
 (adF N x4 x5.1).bind λW7=>cond (!W7) ((fC N (6:Int)).bind λr28=>some (x4,r28)) ((n7 N x3 x4 x5).bind λKF=>some (KF.1,KF.2))
def qy.WI(N:Nat)(x3:ae)(x4:aV)(x5:g9)(x6:aV)(x7:cK):Option (aV×cK):=qy.PG N x3 x4 x5 x6 x7
def qy.b(N:Nat)(Qb:qy.aaL)(a0:ae)(a1:aV)(a2:g9):Option (aV×cK):=
 cond (aN a2.1 11) ((lV N a1.2.2.1.1 a2.2.1 a2.1).bind λr1=>cond (aN r1.2 0) (cond (aN a2.1 11) ((L9 N a0 (r1.1,a1.2.2.1.2) a2.2.1).bind λr2=>cond (aN a1.2.2.2.1.2.1 3) ((pX N a1.2.2.2.1.2.2.2.2.2.2.1 a2.2.1).bind λr3=>(fC N r1.2).bind λr4=>some ((a1.1,(a1.2.1,(r2.1,((a1.2.2.2.1.1,(a1.2.2.2.1.2.1,(a1.2.2.2.1.2.2.1,(a1.2.2.2.1.2.2.2.1,(a1.2.2.2.1.2.2.2.2.1,(a1.2.2.2.1.2.2.2.2.2.1,(r3,a1.2.2.2.1.2.2.2.2.2.2.2))))))),a1.2.2.2.2)))),r4)) ((fC N r1.2).bind λr5=>some ((a1.1,(a1.2.1,(r2.1,a1.2.2.2))),r5))) ((fC N r1.2).bind λr6=>some ((a1.1,(a1.2.1,((r1.1,a1.2.2.1.2),a1.2.2.2))),r6))) ((fC N r1.2).bind λr7=>some ((a1.1,(a1.2.1,((r1.1,a1.2.2.1.2),a1.2.2.2))),r7))) (cond (aN a2.1 12) ((lV N a1.2.2.1.1 a2.2.1 a2.1).bind λr8=>cond (aN r8.2 0) (cond (aN a2.1 11) ((L9 N a0 (r8.1,a1.2.2.1.2) a2.2.1).bind λr9=>cond (aN a1.2.2.2.1.2.1 3) ((pX N a1.2.2.2.1.2.2.2.2.2.2.1 a2.2.1).bind λkF=>(fC N r8.2).bind λod=>some ((a1.1,(a1.2.1,(r9.1,((a1.2.2.2.1.1,(a1.2.2.2.1.2.1,(a1.2.2.2.1.2.2.1,(a1.2.2.2.1.2.2.2.1,(a1.2.2.2.1.2.2.2.2.1,(a1.2.2.2.1.2.2.2.2.2.1,(kF,a1.2.2.2.1.2.2.2.2.2.2.2))))))),a1.2.2.2.2)))),od)) ((fC N r8.2).bind λpn=>some ((a1.1,(a1.2.1,(r9.1,a1.2.2.2))),pn))) ((fC N r8.2).bind λnU=>some ((a1.1,(a1.2.1,((r8.1,a1.2.2.1.2),a1.2.2.2))),nU))) ((fC N r8.2).bind λsU=>some ((a1.1,(a1.2.1,((r8.1,a1.2.2.1.2),a1.2.2.2))),sU))) (cond (aN a2.1 13) ((Hr N a1 a2.2.1).bind λtN=>cond (aN tN 0) ((fC N (3:Int)).bind λyQ=>some (a1,yQ)) (cond (!aN a1.2.2.2.1.2.1 0) ((fC N (6:Int)).bind λwR=>some (a1,wR)) ((lV N a1.2.2.1.1 a2.2.1 a2.1).bind λBW=>cond (!aN BW.2 0) ((fC N BW.2).bind λMv=>some ((a1.1,(a1.2.1,((BW.1,a1.2.2.1.2),a1.2.2.2))),Mv)) ((WQ N (a1.1,(a1.2.1,((BW.1,a1.2.2.1.2),a1.2.2.2))) a0.2.2.2.1).bind λMu=>cond (!Mu.2) ((fC N (2:Int)).bind λRs=>some ((a1.1,(a1.2.1,((BW.1,a1.2.2.1.2),a1.2.2.2))),Rs)) (some ((a1.1,(a1.2.1,((BW.1,a1.2.2.1.2),((a2.2.1,((1:Int),(Mu.1,((0:Int),(cT,(([]:List ((Int)×((List ((Int)×((Int)×(Unit))))×((Int)×((Int)×((Int)×((Int)×(Unit)))))))),(cT,(de,(cg,(cg,())))))))))),a1.2.2.2.2)))),a6)))))) (cond (aN a2.1 19) ((Hr N a1 a2.2.1).bind λMP=>cond (aN MP 0) ((fC N (3:Int)).bind λEv=>some (a1,Ev)) ((Hr N a1 a2.2.1).bind λI2=>cond (!aN I2 1) ((fC N (7:Int)).bind λKH=>some (a1,KH)) (Qb a0 a1 a2 ((0:Int),((0:Int),((cg,(cT,(bq,(bq,(de,(dk,())))))),(((0:Int),((0:Int),((0:Int),((0:Int),(cT,(([]:List ((Int)×((List ((Int)×((Int)×(Unit))))×((Int)×((Int)×((Int)×((Int)×(Unit)))))))),(cT,(de,(cg,(cg,())))))))))),(((0:Int),((0:Int),(EF,((0:Int),())))),()))))) a6))) (Qb a0 a1 a2 ((0:Int),((0:Int),((cg,(cT,(bq,(bq,(de,(dk,())))))),(((0:Int),((0:Int),((0:Int),((0:Int),(cT,(([]:List ((Int)×((List ((Int)×((Int)×(Unit))))×((Int)×((Int)×((Int)×((Int)×(Unit)))))))),(cT,(de,(cg,(cg,())))))))))),(((0:Int),((0:Int),(EF,((0:Int),())))),()))))) a6))))
def qy(N:Nat)(a0:ae)(a1:aV)(a2:g9):Option (aV×cK):=qy.b N (qy.WI N) a0 a1 a2
def WR(N:Nat)(a0:ae)(a1:aV)(a2:g9):Option (aV×cK):=
 cond (aN a2.1 1) ((iq N a1.2.2.1.1 a2.2.1).bind λr1=>(fC N r1.2).bind λr2=>some ((a1.1,(a1.2.1,((r1.1,a1.2.2.1.2),a1.2.2.2))),r2)) (cond (aN a2.1 2) ((fm N a1.2.2.1.1 a1.2.2.1.2.1 (a2.2.2.1,(a2.2.1,(a2.2.2.2.2.1,((0:Int),()))))).bind λr3=>(fC N r3.2).bind λr4=>some ((a1.1,(a1.2.1,((a1.2.2.1.1,(r3.1,a1.2.2.1.2.2)),a1.2.2.2))),r4)) (cond (aN a2.1 3) ((SN N a1 a2.2.2.1).bind λr5=>cond (!r5) ((fC N (3:Int)).bind λr6=>some (a1,r6)) ((PM N a1 (1:Int) (0:Int) (5:Int) a2.2.2.1 a2.2.2.2.2.2.2.1).bind λr7=>some (r7.1,r7.2))) (cond (aN a2.1 4) ((WC N a0 a1.2.2.1 a2.2.2.1 a2.2.2.2.2.2.2.1).bind λr8=>(fC N r8.2).bind λr9=>some ((a1.1,(a1.2.1,(r8.1,a1.2.2.2))),r9)) (cond (aN a2.1 5) ((Hr N a1 a2.2.1).bind λkF=>cond (aN kF 0) ((fC N (3:Int)).bind λod=>some (a1,od)) ((Hr N a1 a2.2.1).bind λpn=>cond (!aN pn 1) ((fC N (7:Int)).bind λnU=>some (a1,nU)) ((PM N a1 (1:Int) (0:Int) (6:Int) a2.2.1 a2.2.2.2.2.2.2.1).bind λsU=>some (sU.1,sU.2)))) (cond (aN a2.1 22) ((Hr N a1 a2.2.1).bind λtN=>cond (aN tN 0) ((fC N (3:Int)).bind λyQ=>some (a1,yQ)) ((wF N a1.2.2.1.2.2.1 (7:Int) a2.2.1).bind λwR=>(jD N wR).bind λBW=>(Xm N BW).bind λMv=>(jD N a2.2.2.2.2.2.2.1).bind λMu=>(Lo N Mu Mv).bind λRs=>cond (aT 0 Rs) ((fC N (9:Int)).bind λMP=>some (a1,MP)) ((PM N a1 (1:Int) (0:Int) (7:Int) a2.2.1 a2.2.2.2.2.2.2.1).bind λEv=>some (Ev.1,Ev.2)))) (cond (aN a2.1 6) ((nX N a1.2.2.1.2.1 a2.2.2.1 a2.2.2.2.2.2.2.1).bind λI2=>(fC N I2.2).bind λKH=>some ((a1.1,(a1.2.1,((a1.2.2.1.1,(I2.1,a1.2.2.1.2.2)),a1.2.2.2))),KH)) (cond (aN a2.1 7) ((jn N a0 a1.2.2.1 (a1.2.1,(a2.2.2.1,(a2.2.2.2.1,(a2.2.2.2.2.1,(a2.2.2.2.2.2.2.1,(a2.2.2.2.2.2.2.2.1,()))))))).bind λBX=>let v27:Int:=W .i64 (a1.2.1+1);some ((a1.1,(v27,(BX.1,a1.2.2.2))),(BX.2.2.2,((W .i64 (v27-1)),((W .i64 (a2.2.2.2.2.2.2.1-BX.2.2.1)),()))))) (cond (aN a2.1 8) ((SN N a1 a2.2.2.1).bind λS4=>cond (!S4) ((fC N (3:Int)).bind λUN=>some (a1,UN)) ((nZ N a1.2.2.1.2.2.2.2.2.1 a2.2.2.1 a2.2.2.2.2.2.1).bind λr32=>(fC N r32.2).bind λr33=>some ((a1.1,(a1.2.1,((a1.2.2.1.1,(a1.2.2.1.2.1,(a1.2.2.1.2.2.1,(a1.2.2.1.2.2.2.1,(a1.2.2.1.2.2.2.2.1,(r32.1,a1.2.2.1.2.2.2.2.2.2)))))),a1.2.2.2))),r33))) (cond (aN a2.1 9) ((WB N a0 a1.2.2.1 a2.2.2.2.1 a2.2.2.2.2.2.2.2.1).bind λr34=>cond (aN r34.2.2 0) (cond (!aN a1.2.2.2.1.2.1 0) ((e8 N a1.2.2.2.1.2.2.2.2.2.2.2.2.2.1 r34.2.1).bind λr35=>(fC N r35.2).bind λr36=>some ((a1.1,(a1.2.1,(r34.1,((a1.2.2.2.1.1,(a1.2.2.2.1.2.1,(a1.2.2.2.1.2.2.1,(a1.2.2.2.1.2.2.2.1,(a1.2.2.2.1.2.2.2.2.1,(a1.2.2.2.1.2.2.2.2.2.1,(a1.2.2.2.1.2.2.2.2.2.2.1,(a1.2.2.2.1.2.2.2.2.2.2.2.1,(a1.2.2.2.1.2.2.2.2.2.2.2.2.1,(r35.1,a1.2.2.2.1.2.2.2.2.2.2.2.2.2.2)))))))))),a1.2.2.2.2)))),r36)) ((fC N r34.2.2).bind λr37=>some ((a1.1,(a1.2.1,(r34.1,a1.2.2.2))),r37))) ((fC N r34.2.2).bind λr38=>some ((a1.1,(a1.2.1,(r34.1,a1.2.2.2))),r38))) (cond (aN a2.1 10) ((WQ N a1 a2.2.2.2.2.2.2.1).bind λr39=>cond (!r39.2) ((fC N (2:Int)).bind λr40=>some (a1,r40)) (some ((r39.1,a1.2),a6))) ((qy N a0 a1 a2).bind λr41=>some (r41.1,r41.2))))))))))))
def WT(N:Nat)(a0:ae)(a1:aV)(a2:g9):Option (aV×cK):=
 (mA N a0).bind λr1=>cond (!r1) (some (a1,((1:Int),cv))) ((sF N a2).bind λr2=>cond (!r2) (some (a1,((1:Int),cv))) ((WR N a0 a1 a2).bind λr3=>cond (!aN r3.2.1 0) (some (a1,(r3.2.1,cv))) (some (r3.1,r3.2))))
abbrev Gw.iu:=jF→ae→aV→aV→au→Int→Option (aV×au)
def Gw.tX(N:Nat)(iv:Gw.iu)(x1:jF)(x2:ae)(x4:aV)(x6:aV)(x8:au)(x9:Int):Option (aV×au):=
 cond (aT x9 (List.length x1:Int)) (cond (aY x9 (List.length x1)) ((WT N x2 x6 (List.getD x1 x9.toNat zz8)).bind λr3=>cond (small (List.length x8+List.length ([r3.2]))) (iv x1 x2 x4 r3.1 (x8++([r3.2])) (W .i64 (x9+1))) (none)) (none)) (some (x6,x8))
def Gw.l6(N:Nat):Nat→Gw.iu
 |0,_,_,_,_,_,_=>none
 |n+1,x1,x2,x4,x6,x8,x9=>Gw.tX N (Gw.l6 N n) x1 x2 x4 x6 x8 x9
def Gw.b(N:Nat)(wv:Gw.iu)(a0:ae)(a1:jF):Option (aV×au):=
 (akm N a0).bind λr1=>cond (!aN r1.2 0) (some (((0:Int),((0:Int),((cg,(cT,(bq,(bq,(de,(dk,())))))),(((0:Int),((0:Int),((0:Int),((0:Int),(cT,(([]:List ((Int)×((List ((Int)×((Int)×(Unit))))×((Int)×((Int)×((Int)×((Int)×(Unit)))))))),(cT,(de,(cg,(cg,())))))))))),(((0:Int),((0:Int),(EF,((0:Int),())))),()))))),[])) (wv a1 a0 ((0:Int),((0:Int),((cg,(cT,(bq,(bq,(de,(dk,())))))),(((0:Int),((0:Int),((0:Int),((0:Int),(cT,(([]:List ((Int)×((List ((Int)×((Int)×(Unit))))×((Int)×((Int)×((Int)×((Int)×(Unit)))))))),(cT,(de,(cg,(cg,())))))))))),(((0:Int),((0:Int),(EF,((0:Int),())))),()))))) r1.1 ([]) (0:Int))
def Gw(N:Nat)(a0:ae)(a1:jF):Option (aV×au):=Gw.b N (Gw.l6 N N) a0 a1
def F28(N:Nat)(a0:bf)(a1:ae)(a2:Int):Option (aV×bf):=
 (E4 N a0 a1 a2).bind λr1=>(uh N r1.2 (2:Int)).bind λr2=>let v3:Int:=W .i64 ((1:Int)+r2.1);cond (small (List.length r1.1+List.length ([((11:Int),(v3,eT)),((13:Int),(v3,eT))]))) (let v4:List ((Int)×((Int)×((Int)×((Int)×((Int)×((Int)×((Int)×((Int)×(Unit))))))))):=r1.1++([((11:Int),(v3,eT)),((13:Int),(v3,eT))]);(Es N r2.2 a1).bind λr5=>cond (small (List.length v4+List.length r5.1)) (let v6:List ((Int)×((Int)×((Int)×((Int)×((Int)×((Int)×((Int)×((Int)×(Unit))))))))):=v4++r5.1;cond (small (List.length v6+List.length ([((10:Int),((0:Int),((0:Int),((0:Int),((0:Int),((0:Int),((2:Int),((0:Int),())))))))),((15:Int),zz7)]))) (let v7:List ((Int)×((Int)×((Int)×((Int)×((Int)×((Int)×((Int)×((Int)×(Unit))))))))):=v6++([((10:Int),((0:Int),((0:Int),((0:Int),((0:Int),((0:Int),((2:Int),((0:Int),())))))))),((15:Int),zz7)]);(Es N r5.2 a1).bind λr8=>cond (small (List.length v7+List.length r8.1)) ((Gw N a1 (v7++r8.1)).bind λkF=>some (kF.1,r8.2)) (none)) (none)) (none)) (none)
def F46(N:Nat)(a0:br):Option aJ:=
 (jD N a0.1).bind λr1=>(VB N false ([(0:Int),(0:Int),(1:Int)])).bind λr2=>(jE N r1 r2).bind λr3=>(F67 N a0.2.1).bind λr4=>(VB N false r4).bind λr5=>(zT N r3 r5).bind λr6=>some r6
abbrev Cr.fZ:=ae→aV→eJ→aO→Int→Int→Option (Bool)
def Cr.kt(N:Nat)(ia:Cr.fZ)(x4:ae)(x5:aV)(x6:eJ)(x8:aO)(bb:Int)(aX:Int):Option (Bool):=
 cond (aT aX 4) ((Cw N x4 aX).bind λr8=>cond (aY aX (List.length x6)) ((F46 N (List.getD x6 aX.toNat cv)).bind λr9=>(Xn N r9).bind λkF=>cond (aN (List.length r8:Int) 0) ((Ol N r9).bind λod=>cond (!aN od 0) (some false) (ia x4 x5 x6 x8 bb (W .i64 (aX+1)))) (cond (aY 0 (List.length r8)) (cond (aY (List.getD r8 (0:Int).toNat (0:Int)) (List.length x5.2.2.1.2.2.2.2.1)) ((jD N (List.getD x5.2.2.1.2.2.2.2.1 (List.getD r8 (0:Int).toNat (0:Int)).toNat (0:Int))).bind λnU=>(jD N x4.2.2.2.2.2.2.1).bind λsU=>(Lo N kF sU).bind λtN=>cond (cZ tN 0) (ia x4 x5 x6 x8 bb (W .i64 (aX+1))) ((Lo N kF nU).bind λwR=>cond (aT wR 0) (ia x4 x5 x6 x8 bb (W .i64 (aX+1))) (cond (cZ (List.length x8:Int) bb) (some false) (cond (aY bb (List.length x8)) (cond (aY 0 (List.length r8)) (cond (!aN (((List.getD x8 bb.toNat aW).2).1) (List.getD r8 (0:Int).toNat (0:Int))) (some false) (cond (aY bb (List.length x8)) ((Ol N r9).bind λMv=>cond (!(p8 .bool (aN ((((List.getD x8 bb.toNat aW).2).2).1) (2:Int)) (aT 0 Mv))) (some false) (cond (aY bb (List.length x8)) ((F48 N (List.getD x8 bb.toNat aW)).bind λMu=>cond (!Mu) (some false) (cond (aY bb (List.length x8)) (cond (!aN ((List.getD x8 bb.toNat aW).1) (W .i64 (x5.2.1+bb))) (some false) (cond (aY bb (List.length x8)) ((jD N (((((List.getD x8 bb.toNat aW).2).2).2).1)).bind λMP=>(jE N nU MP).bind λEv=>(RU N kF Ev).bind λI2=>(Ol N I2).bind λKH=>cond (aT KH 0) (some false) ((Lo N I2 nU).bind λBX=>cond (cZ 0 BX) (cond (aY bb (List.length x8)) (cond (!aN (((((List.getD x8 bb.toNat aW).2).2).2).1) (1000000000:Int)) (some false) (ia x4 x5 x6 x8 (W .i64 (bb+1)) (W .i64 (aX+1)))) (none)) (ia x4 x5 x6 x8 (W .i64 (bb+1)) (W .i64 (aX+1))))) (none))) (none))) (none))) (none))) (none)) (none))))) (none)) (none))) (none)) (some (aN bb (List.length x8:Int)))
def Cr.lx(N:Nat):Nat→Cr.fZ
 |0,_,_,_,_,_,_=>none
 |n+1,x4,x5,x6,x8,bb,aX=>Cr.kt N (Cr.lx N n) x4 x5 x6 x8 bb aX
def Cr.b(N:Nat)(sS:Cr.fZ)(a0:List (Int)):Option (Bool):=
 (F38 N).bind λr1=>cond (!r1) (some false) ((F13 N a0).bind λr2=>(vP N r2).bind λr3=>(F28 N r3.2 r3.1 (20:Int)).bind λr4=>(Bz N r3.1 r4.1.2.2.1).bind λr5=>(vn N r3.1 r4.1.2.2.1 r4.1.2.1).bind λr6=>cond (!aN r5.2 0) (some false) (cond (!aN r6.2 0) (some false) (cond (!aN (List.length r5.1:Int) 4) (some false) (sS r3.1 r4.1 r5.1 r6.1 (0:Int) (0:Int)))))
def Cr(N:Nat)(a0:List (Int)):Option (Bool):=Cr.b N (Cr.lx N N) a0
end
end VM.F
