/- A part of the proof of TearDrawn of layer 29: the functions as equations between values, printed by a program. -/
import Derived.Test.YtocmlaipoebfeaaGreatVm0
set_option linter.all false
namespace VM.F
open Go VM
set_option maxRecDepth 100000
noncomputable section
abbrev pA:Ty:=(.pair .str .unit)
abbrev gX:Ty:=(.pair .str (.pair (.int .u64) .unit))
abbrev g5:Ty:=(.pair (.int .i64) (.pair (.int .i64) .unit))
abbrev eF:Ty:=(.pair (.int .i64) (.pair (.int .u64) .unit))
abbrev bK:Ty:=(.pair .bool (.pair (.slice (.int .u64)) .unit))
abbrev dn:Ty:=(.pair (.slice (.int .u64)) (.pair (.int .i64) .unit))
abbrev fP:Ty:=(.pair (.int .i64) g5)
abbrev pB:Ty:=(.pair (.int .i64) (.pair (.int .i64) (.pair .bool (.pair (.int .u8) .unit))))
abbrev dL:Ty:=(.pair (.int .i64) fP)
abbrev vG:Ty:=(.pair (.int .i64) (.pair (.int .i64) (.pair eF .unit)))
abbrev oB:Ty:=(.pair (.int .i64) dL)
abbrev m5:Ty:=(.pair (.int .i64) (.pair (.int .i64) (.pair bK .unit)))
abbrev jM:Ty:=(.pair (.int .i64) oB)
abbrev n7:Ty:=(.pair (.int .i64) (.pair (.int .i64) jM))
abbrev gW:Ty:=(.pair (.int .i64) (.pair (.slice g5) dL))
abbrev eE:Ty:=(.pair (.int .i64) (.pair (.int .i64) (.pair (.slice oB) (.pair (.int .i64) .unit))))
abbrev ar:Ty:=(.pair (.slice dL) jM)
abbrev aB:Ty:=(.pair (.slice g5) (.pair (.slice dL) (.pair (.slice fP) (.pair (.slice fP) (.pair (.slice (.int .i64)) (.pair (.slice jM) .unit))))))
abbrev qU:Ty:=(.pair (.int .i64) (.pair (.int .i64) (.pair (.int .i64) (.pair (.int .i64) (.pair (.slice dL) (.pair (.slice gW) (.pair (.slice dL) (.pair (.slice (.int .i64)) (.pair (.slice g5) (.pair (.slice g5) .unit))))))))))
abbrev cS:Ty:=(.pair (.int .i64) (.pair (.int .i64) (.pair aB (.pair qU (.pair eE .unit)))))
abbrev PX:=Ty.den pA
abbrev PY:=List (Ty.den pA)
abbrev FQ:=Ty.den gX
abbrev FR:=List (Ty.den gX)
abbrev NL:=Ty.den g5
abbrev av:=List (Ty.den g5)
abbrev bG:=Ty.den eF
abbrev gY:=List (Ty.den eF)
abbrev au:=Ty.den bK
abbrev kO:=List (Ty.den bK)
abbrev aM:=Ty.den dn
abbrev akp:=List (Ty.den dn)
abbrev cE:=Ty.den fP
abbrev ah:=List (Ty.den fP)
abbrev PZ:=Ty.den pB
abbrev P0:=List (Ty.den pB)
abbrev bS:=Ty.den dL
abbrev aE:=List (Ty.den dL)
abbrev pd:=Ty.den vG
abbrev cC:=List (Ty.den vG)
abbrev uy:=Ty.den oB
abbrev ba:=List (Ty.den oB)
abbrev YN:=Ty.den m5
abbrev bk:=List (Ty.den m5)
abbrev fJ:=Ty.den jM
abbrev aW:=List (Ty.den jM)
abbrev gm:=Ty.den n7
abbrev fT:=List (Ty.den n7)
abbrev gQ:=Ty.den gW
abbrev aY:=List (Ty.den gW)
abbrev cR:=Ty.den eE
abbrev aeI:=List (Ty.den eE)
abbrev ae:=Ty.den ar
abbrev aeJ:=List (Ty.den ar)
abbrev ag:=Ty.den aB
abbrev akq:=List (Ty.den aB)
abbrev acB:=Ty.den qU
abbrev acC:=List (Ty.den qU)
abbrev aT:=Ty.den cS
abbrev aiB:=List (Ty.den cS)
def F86(N:Nat):Option (ae×ag):=
 some (([((0:Int),((100:Int),ca))],((0:Int),((0:Int),((0:Int),((0:Int),((1:Int),((0:Int),()))))))),([((1:Int),((1:Int),()))],([((1:Int),((1:Int),((1:Int),((0:Int),())))),((2:Int),((1:Int),((2:Int),((0:Int),())))),((3:Int),((1:Int),((2:Int),((0:Int),()))))],(bq,([((0:Int),((0:Int),((3:Int),()))),((1:Int),((0:Int),((-4:Int),()))),((2:Int),((0:Int),((-2:Int),()))),((3:Int),((0:Int),((3:Int),())))],([(100:Int)],(de,())))))))
def xf(N:Nat)(a0:Int)(a1:Int)(a2:Int):Option (Bool):=
 cond (bR a1 a0) (some (bR a0 a2)) (some false)
abbrev xg.aU:=ae→aE→Int→Int→Option (Bool)
def xg.cj(N:Nat)(br:xg.aU)(x1:ae)(aH:aE)(aL:Int)(bn:Int):Option (Bool):=
 cond (aG bn aL) (cond (aI bn (List.length aH)) ((xf N ((List.getD aH bn.toNat aS).1) (0:Int) (3:Int)).bind fun r3=>cond (!r3) (some false) ((xf N (((List.getD aH bn.toNat aS).2).1) (1:Int) (1000000000000:Int)).bind fun r4=>cond (!r4) (some false) ((xf N ((((List.getD aH bn.toNat aS).2).2).1) (0:Int) (1000000000:Int)).bind fun r5=>cond (!r5) (some false) ((xf N (((((List.getD aH bn.toNat aS).2).2).2).1) (0:Int) (1000000000:Int)).bind fun r6=>cond (!r6) (some false) (br x1 aH aL (W .i64 (bn+1))))))) (none)) (cond (bR 0 x1.2.1) ((xf N x1.2.2.1 (0:Int) (4:Int)).bind fun r8=>cond (r8) ((xf N x1.2.2.2.1 (0:Int) (1000000:Int)).bind fun r9=>cond (r9) ((xf N x1.2.2.2.2.1 (0:Int) (1000000:Int)).bind fun jF=>cond (jF) ((xf N x1.2.2.2.2.2.1 (1:Int) (4611686018427387904:Int)).bind fun kT=>cond (kT) (some (bR 0 x1.2.2.2.2.2.2.1)) (some false)) (some false)) (some false)) (some false)) (some false))
def xg.l4(N:Nat):Nat→xg.aU
 |0,_,_,_,_=>none
 |n+1,x1,aH,aL,bn=>xg.cj N (xg.l4 N n) x1 aH aL bn
def xg.b(N:Nat)(cT:xg.aU)(a0:ae):Option (Bool):=
 (xf N (List.length a0.1:Int) (1:Int) (6:Int)).bind fun r1=>cond (!r1) (some false) (cT a0 a0.1 (List.length a0.1:Int) (0:Int))
def xg(N:Nat)(a0:ae):Option (Bool):=xg.b N (xg.l4 N N) a0
abbrev kD.bT:=av→av→Int→Int→Option (Bool)
def kD.ec(N:Nat)(cX:kD.bT)(x0:av)(x5:av)(x6:Int)(x7:Int):Option (Bool):=
 cond (aG x7 x6) (cond (aI x7 (List.length x5)) (cond (aG ((List.getD x5 x7.toNat ca).1) (1:Int)) (some false) (cond (aG 12 ((List.getD x5 x7.toNat ca).1)) (some false) (cond (aG (((List.getD x5 x7.toNat ca).2).1) (1:Int)) (some false) (cond (aG 4 (((List.getD x5 x7.toNat ca).2).1)) (some false) (cond (aG 0 x7) (let v2:Int:=W .i64 (x7-1);cond (aI v2 (List.length x0)) (cond (bR ((List.getD x5 x7.toNat ca).1) ((List.getD x0 v2.toNat ca).1)) (some false) (cX x0 x5 x6 (W .i64 (x7+1)))) (none)) (cX x0 x5 x6 (W .i64 (x7+1)))))))) (none)) (some true)
def kD.l2(N:Nat):Nat→kD.bT
 |0,_,_,_,_=>none
 |n+1,x0,x5,x6,x7=>kD.ec N (kD.l2 N n) x0 x5 x6 x7
def kD.b(N:Nat)(fx:kD.bT)(a0:av):Option (Bool):=
 fx a0 a0 (List.length a0:Int) (0:Int)
def kD(N:Nat)(a0:av):Option (Bool):=kD.b N (kD.l2 N N) a0
abbrev ja.cf:=aE→(List (Bool))→aE→Int→Int→Option (Bool)
def ja.gZ(N:Nat)(bQ:ja.cf)(x0:aE)(x3:List (Bool))(x6:aE)(x7:Int)(x8:Int):Option (Bool):=
 cond (aG x8 x7) (cond (aI x8 (List.length x6)) (cond (aG ((List.getD x6 x8.toNat aS).1) (1:Int)) (some false) (cond (aG 24 ((List.getD x6 x8.toNat aS).1)) (some false) (cond (aG (((List.getD x6 x8.toNat aS).2).1) (1:Int)) (some false) (cond (aG 12 (((List.getD x6 x8.toNat aS).2).1)) (some false) (cond (!ay ((((List.getD x6 x8.toNat aS).2).2).1) (1:Int)) (cond (!ay ((((List.getD x6 x8.toNat aS).2).2).1) (2:Int)) (some false) (cond (aG (((((List.getD x6 x8.toNat aS).2).2).2).1) (0:Int)) (some false) (cond (aG 1000000000000 (((((List.getD x6 x8.toNat aS).2).2).2).1)) (some false) (cond (aG 0 x8) (let v2:Int:=W .i64 (x8-1);cond (aI v2 (List.length x0)) (cond (bR ((List.getD x6 x8.toNat aS).1) ((List.getD x0 v2.toNat aS).1)) (some false) (cond (ay ((((List.getD x6 x8.toNat aS).2).2).1) (1:Int)) (cond (aI (((List.getD x6 x8.toNat aS).2).1) 13) (cond (List.getD x3 (((List.getD x6 x8.toNat aS).2).1).toNat false) (some false) (cond (aI (((List.getD x6 x8.toNat aS).2).1) 13) (bQ x0 (List.set x3 (((List.getD x6 x8.toNat aS).2).1).toNat true) x6 x7 (W .i64 (x8+1))) (none))) (none)) (bQ x0 x3 x6 x7 (W .i64 (x8+1))))) (none)) (cond (ay ((((List.getD x6 x8.toNat aS).2).2).1) (1:Int)) (cond (aI (((List.getD x6 x8.toNat aS).2).1) 13) (cond (List.getD x3 (((List.getD x6 x8.toNat aS).2).1).toNat false) (some false) (cond (aI (((List.getD x6 x8.toNat aS).2).1) 13) (bQ x0 (List.set x3 (((List.getD x6 x8.toNat aS).2).1).toNat true) x6 x7 (W .i64 (x8+1))) (none))) (none)) (bQ x0 x3 x6 x7 (W .i64 (x8+1)))))))) (cond (aG (((((List.getD x6 x8.toNat aS).2).2).2).1) (0:Int)) (some false) (cond (aG 1000000000000 (((((List.getD x6 x8.toNat aS).2).2).2).1)) (some false) (cond (aG 0 x8) (let v7:Int:=W .i64 (x8-1);cond (aI v7 (List.length x0)) (cond (bR ((List.getD x6 x8.toNat aS).1) ((List.getD x0 v7.toNat aS).1)) (some false) (cond (ay ((((List.getD x6 x8.toNat aS).2).2).1) (1:Int)) (cond (aI (((List.getD x6 x8.toNat aS).2).1) 13) (cond (List.getD x3 (((List.getD x6 x8.toNat aS).2).1).toNat false) (some false) (cond (aI (((List.getD x6 x8.toNat aS).2).1) 13) (bQ x0 (List.set x3 (((List.getD x6 x8.toNat aS).2).1).toNat true) x6 x7 (W .i64 (x8+1))) (none))) (none)) (bQ x0 x3 x6 x7 (W .i64 (x8+1))))) (none)) (cond (ay ((((List.getD x6 x8.toNat aS).2).2).1) (1:Int)) (cond (aI (((List.getD x6 x8.toNat aS).2).1) 13) (cond (List.getD x3 (((List.getD x6 x8.toNat aS).2).1).toNat false) (some false) (cond (aI (((List.getD x6 x8.toNat aS).2).1) 13) (bQ x0 (List.set x3 (((List.getD x6 x8.toNat aS).2).1).toNat true) x6 x7 (W .i64 (x8+1))) (none))) (none)) (bQ x0 x3 x6 x7 (W .i64 (x8+1)))))))))))) (none)) (some true)
def ja.l3(N:Nat):Nat→ja.cf
 |0,_,_,_,_,_=>none
 |n+1,x0,x3,x6,x7,x8=>ja.gZ N (ja.l3 N n) x0 x3 x6 x7 x8
def ja.b(N:Nat)(iI:ja.cf)(a0:aE):Option (Bool):=
 iI a0 (List.replicate 13 false) a0 (List.length a0:Int) (0:Int)
def ja(N:Nat)(a0:aE):Option (Bool):=ja.b N (ja.l3 N N) a0
abbrev uU.aU:=Int→av→Int→Int→Option (Int)
def uU.cj(N:Nat)(br:uU.aU)(x1:Int)(aO:av)(aH:Int)(aL:Int):Option (Int):=
 cond (aG aL aH) (cond (aI aL (List.length aO)) (cond (ay ((List.getD aO aL.toNat ca).1) x1) (some (((List.getD aO aL.toNat ca).2).1)) (br x1 aO aH (W .i64 (aL+1)))) (none)) (some (0:Int))
def uU.l4(N:Nat):Nat→uU.aU
 |0,_,_,_,_=>none
 |n+1,x1,aO,aH,aL=>uU.cj N (uU.l4 N n) x1 aO aH aL
def uU.b(N:Nat)(cT:uU.aU)(a0:av)(a1:Int):Option (Int):=
 (kD N a0).bind fun r1=>cond (!r1) (some (0:Int)) (cT a1 a0 (List.length a0:Int) (0:Int))
def uU(N:Nat)(a0:av)(a1:Int):Option (Int):=uU.b N (uU.l4 N N) a0 a1
abbrev xj.aU:=av→aE→Int→Int→Option (Bool)
def xj.cj(N:Nat)(br:xj.aU)(x0:av)(bU:aE)(cG:Int)(cV:Int):Option (Bool):=
 cond (aG cV cG) (cond (aI cV (List.length bU)) ((uU N x0 (((List.getD bU cV.toNat aS).2).1)).bind fun r4=>cond (ay r4 0) (some false) (br x0 bU cG (W .i64 (cV+1)))) (none)) (some true)
def xj.l4(N:Nat):Nat→xj.aU
 |0,_,_,_,_=>none
 |n+1,x0,bU,cG,cV=>xj.cj N (xj.l4 N n) x0 bU cG cV
def xj.b(N:Nat)(cT:xj.aU)(a0:av)(a1:aE):Option (Bool):=
 (kD N a0).bind fun r1=>cond (!r1) (some false) ((ja N a1).bind fun r2=>cond (!r2) (some false) (cT a0 a1 (List.length a1:Int) (0:Int)))
def xj(N:Nat)(a0:av)(a1:aE):Option (Bool):=xj.b N (xj.l4 N N) a0 a1
def Ib(N:Nat)(a0:Int)(a1:Int):Option (Bool):=
 cond (ay a0 1) (some (ay a1 0)) (cond (ay a0 2) (some (ay a1 0)) (cond (ay a0 3) (some (ay a1 0)) (cond (ay a0 4) (some (ay a1 0)) (cond (ay a0 5) (cond (bR 1 a1) (some (bR a1 24)) (some false)) (cond (ay a0 6) (cond (bR 1 a1) (some (bR a1 12)) (some false)) (cond (ay a0 7) (cond (bR 1 a1) (some (bR a1 12)) (some false)) (some false)))))))
def Ie(N:Nat)(a0:Int)(a1:Int)(a2:cE):Option (Int):=
 cond (!ay a0 a2.1) (some (W .i64 (a0-a2.1))) (some (W .i64 (a1-a2.2.1)))
abbrev vo.bT:=ah→ah→Int→Int→Option (Bool)
def vo.ec(N:Nat)(cX:vo.bT)(x0:ah)(x5:ah)(x6:Int)(x7:Int):Option (Bool):=
 cond (aG x7 x6) (cond (aI x7 (List.length x5)) ((Ib N ((List.getD x5 x7.toNat aR).1) (((List.getD x5 x7.toNat aR).2).1)).bind fun r2=>cond (!r2) (some false) (cond (ay ((((List.getD x5 x7.toNat aR).2).2).1) (0:Int)) (some false) (cond (aG 0 x7) (let v3:Int:=W .i64 (x7-1);cond (aI v3 (List.length x0)) ((Ie N ((List.getD x5 x7.toNat aR).1) (((List.getD x5 x7.toNat aR).2).1) (List.getD x0 v3.toNat aR)).bind fun r4=>cond (bR r4 0) (some false) (cX x0 x5 x6 (W .i64 (x7+1)))) (none)) (cX x0 x5 x6 (W .i64 (x7+1)))))) (none)) (some true)
def vo.l2(N:Nat):Nat→vo.bT
 |0,_,_,_,_=>none
 |n+1,x0,x5,x6,x7=>vo.ec N (vo.l2 N n) x0 x5 x6 x7
def vo.b(N:Nat)(fx:vo.bT)(a0:ah):Option (Bool):=
 fx a0 a0 (List.length a0:Int) (0:Int)
def vo(N:Nat)(a0:ah):Option (Bool):=vo.b N (vo.l2 N N) a0
def Q4(N:Nat)(a0:Int):Option bG:=
 cond (aG 63 0) (none) (some ((shr .i64 a0 63),((W .u64 a0),())))
abbrev jn.cf:=bG→Int→Int→Int→gY→Int→Int→Option (bG×(Bool))
def jn.gZ(N:Nat)(bQ:jn.cf)(x2:bG)(x4:Int)(x5:Int)(x6:Int)(aO:gY)(aH:Int)(aL:Int):Option (bG×(Bool)):=
 cond (aG aL aH) (cond (aI aL (List.length aO)) ((pF N x6 (((List.getD aO aL.toNat ca).2).1) (0:Int)).bind fun r2=>(pF N x5 (W .u64 ((List.getD aO aL.toNat ca).1)) r2.2).bind fun r4=>cond (aG 63 0) (none) (bQ x2 (W .i64 ((W .i64 (x4+(shr .i64 ((List.getD aO aL.toNat ca).1) (63:Int))))+(W .i64 r4.2))) r4.1 r2.1 aO aH (W .i64 (aL+1)))) (none)) (cond (aG 63 0) (none) (cond (!ay x4 (shr .i64 (W .i64 x5) 63)) (some (ca,false)) (some (((W .i64 x5),(x6,())),true))))
def jn.l3(N:Nat):Nat→jn.cf
 |0,_,_,_,_,_,_,_=>none
 |n+1,x2,x4,x5,x6,aO,aH,aL=>jn.gZ N (jn.l3 N n) x2 x4 x5 x6 aO aH aL
def jn.b(N:Nat)(iI:jn.cf)(a0:gY):Option (bG×(Bool)):=
 iI ca (0:Int) (0:Int) (0:Int) a0 (List.length a0:Int) (0:Int)
def jn(N:Nat)(a0:gY):Option (bG×(Bool)):=jn.b N (jn.l3 N N) a0
abbrev wC.bg:=bG→gY→ah→Int→Int→Option bG
def wC.dp(N:Nat)(bb:wC.bg)(x2:bG)(x3:gY)(aL:ah)(bn:Int)(bm:Int):Option bG:=
 cond (aG bm bn) (cond (aI bm (List.length aL)) ((Q4 N ((((List.getD aL bm.toNat aR).2).2).1)).bind fun r3=>cond (small (List.length x3+List.length ([r3]))) (bb x2 (x3++([r3])) aL bn (W .i64 (bm+1))) (none)) (none)) ((jn N x3).bind fun r6=>some r6.1)
def wC.l5(N:Nat):Nat→wC.bg
 |0,_,_,_,_,_=>none
 |n+1,x2,x3,aL,bn,bm=>wC.dp N (wC.l5 N n) x2 x3 aL bn bm
def wC.b(N:Nat)(dF:wC.bg)(a0:ah):Option bG:=
 (vo N a0).bind fun r1=>cond (!r1) (some ca) (dF ca ([]) a0 (List.length a0:Int) (0:Int))
def wC(N:Nat)(a0:ah):Option bG:=wC.b N (wC.l5 N N) a0
def Rc(N:Nat)(a0:bG)(a1:bG):Option (Int):=
 cond (aG a0.1 a1.1) (some (-1:Int)) (cond (ay a0.1 a1.1) (cond (aG a0.2.1 a1.2.1) (some (-1:Int)) (cond (kV (.pair (.int .i64) (.pair (.int .u64) .unit)) a0 a1) (some (0:Int)) (some (1:Int)))) (cond (kV (.pair (.int .i64) (.pair (.int .u64) .unit)) a0 a1) (some (0:Int)) (some (1:Int))))
def YI(N:Nat)(a0:bG):Option (Int):=
 (Rc N a0 ca).bind fun r1=>some r1
def NK(N:Nat)(a0:Int)(a1:Int):Option (Bool):=
 cond (bR 0 a0) (cond (bR a0 24) (cond (bR 0 a1) (some (aG a1 6)) (some false)) (some false)) (some false)
def Ld(N:Nat)(a0:Int):Option (Bool):=
 some (!ay a0 (-9223372036854775808))
def Lc(N:Nat)(a0:Int)(a1:Int)(a2:cE):Option (Int):=
 cond (!ay a0 a2.1) (some (W .i64 (a0-a2.1))) (some (W .i64 (a1-a2.2.1)))
abbrev jH.bT:=ah→ah→Int→Int→Option (Bool)
def jH.ec(N:Nat)(cX:jH.bT)(x0:ah)(x5:ah)(x6:Int)(x7:Int):Option (Bool):=
 cond (aG x7 x6) (cond (aI x7 (List.length x5)) ((NK N ((List.getD x5 x7.toNat aR).1) (((List.getD x5 x7.toNat aR).2).1)).bind fun r2=>cond (!r2) (some false) (cond (ay ((((List.getD x5 x7.toNat aR).2).2).1) (0:Int)) (some false) ((Ld N ((((List.getD x5 x7.toNat aR).2).2).1)).bind fun r3=>cond (!r3) (some false) (cond (aG 0 x7) (let v4:Int:=W .i64 (x7-1);cond (aI v4 (List.length x0)) ((Lc N ((List.getD x5 x7.toNat aR).1) (((List.getD x5 x7.toNat aR).2).1) (List.getD x0 v4.toNat aR)).bind fun r5=>cond (bR r5 0) (some false) (cX x0 x5 x6 (W .i64 (x7+1)))) (none)) (cX x0 x5 x6 (W .i64 (x7+1))))))) (none)) (some true)
def jH.l2(N:Nat):Nat→jH.bT
 |0,_,_,_,_=>none
 |n+1,x0,x5,x6,x7=>jH.ec N (jH.l2 N n) x0 x5 x6 x7
def jH.b(N:Nat)(fx:jH.bT)(a0:ah):Option (Bool):=
 fx a0 a0 (List.length a0:Int) (0:Int)
def jH(N:Nat)(a0:ah):Option (Bool):=jH.b N (jH.l2 N N) a0
abbrev kG.bg:=Int→bG→gY→ah→Int→Int→Option bG
def kG.dp(N:Nat)(bb:kG.bg)(x1:Int)(x4:bG)(x5:gY)(bm:ah)(bU:Int)(cG:Int):Option bG:=
 cond (aG cG bU) (cond (aI cG (List.length bm)) (cond (ay (((List.getD bm cG.toNat aR).2).1) x1) ((Q4 N ((((List.getD bm cG.toNat aR).2).2).1)).bind fun r3=>cond (small (List.length x5+List.length ([r3]))) (bb x1 x4 (x5++([r3])) bm bU (W .i64 (cG+1))) (none)) (bb x1 x4 x5 bm bU (W .i64 (cG+1)))) (none)) ((jn N x5).bind fun r7=>some r7.1)
def kG.l5(N:Nat):Nat→kG.bg
 |0,_,_,_,_,_,_=>none
 |n+1,x1,x4,x5,bm,bU,cG=>kG.dp N (kG.l5 N n) x1 x4 x5 bm bU cG
def kG.b(N:Nat)(dF:kG.bg)(a0:ah)(a1:Int):Option bG:=
 (jH N a0).bind fun r1=>cond (!r1) (some ca) (dF a1 ca ([]) a0 (List.length a0:Int) (0:Int))
def kG(N:Nat)(a0:ah)(a1:Int):Option bG:=kG.b N (kG.l5 N N) a0 a1
abbrev xk.bT:=ah→Int→Option (Bool)
def xk.ec(N:Nat)(cX:xk.bT)(x0:ah)(x4:Int):Option (Bool):=
 cond (aG x4 6) ((kG N x0 x4).bind fun r2=>(YI N r2).bind fun r3=>cond (!ay r3 0) (some false) (cX x0 (W .i64 (x4+1)))) ((jH N x0).bind fun r5=>some r5)
def xk.l2(N:Nat):Nat→xk.bT
 |0,_,_=>none
 |n+1,x0,x4=>xk.ec N (xk.l2 N n) x0 x4
def xk.b(N:Nat)(fx:xk.bT)(a0:ah):Option (Bool):=
 fx a0 (0:Int)
def xk(N:Nat)(a0:ah):Option (Bool):=xk.b N (xk.l2 N N) a0
def Q8(N:Nat)(a0:fJ):Option (Bool):=
 cond (bR 1 a0.1) (cond (bR a0.1 1099511627776) (cond (bR 1 a0.2.1) (cond (bR a0.2.1 24) (cond (bR 0 a0.2.2.1) (cond (aG a0.2.2.1 6) (cond (ay a0.2.2.2.1 1) (cond (bR 1 a0.2.2.2.2.1) (cond (bR a0.2.2.2.2.1 1000000000) (cond (bR 1 a0.2.2.2.2.2.1) (some (bR a0.2.2.2.2.2.1 1000000000000)) (some false)) (some false)) (some false)) (cond (ay a0.2.2.2.1 2) (cond (bR 1 a0.2.2.2.2.1) (cond (bR a0.2.2.2.2.1 1000000000) (cond (bR 1 a0.2.2.2.2.2.1) (some (bR a0.2.2.2.2.2.1 1000000000000)) (some false)) (some false)) (some false)) (some false))) (some false)) (some false)) (some false)) (some false)) (some false)) (some false)
abbrev xi.bT:=aW→aW→Int→Int→Option (Bool)
def xi.ec(N:Nat)(cX:xi.bT)(x0:aW)(x5:aW)(x6:Int)(x7:Int):Option (Bool):=
 cond (aG x7 x6) (cond (aI x7 (List.length x5)) ((Q8 N (List.getD x5 x7.toNat eG)).bind fun r2=>cond (!r2) (some false) (cond (aG 0 x7) (let v3:Int:=W .i64 (x7-1);cond (aI v3 (List.length x0)) (cond (bR ((List.getD x5 x7.toNat eG).1) ((List.getD x0 v3.toNat eG).1)) (some false) (cX x0 x5 x6 (W .i64 (x7+1)))) (none)) (cX x0 x5 x6 (W .i64 (x7+1))))) (none)) (some (bR (List.length x0:Int) 32))
def xi.l2(N:Nat):Nat→xi.bT
 |0,_,_,_,_=>none
 |n+1,x0,x5,x6,x7=>xi.ec N (xi.l2 N n) x0 x5 x6 x7
def xi.b(N:Nat)(fx:xi.bT)(a0:aW):Option (Bool):=
 fx a0 a0 (List.length a0:Int) (0:Int)
def xi(N:Nat)(a0:aW):Option (Bool):=xi.b N (xi.l2 N N) a0
abbrev kE.aU:=Int→bS→aE→Int→Int→Option (bS×(Bool))
def kE.cj(N:Nat)(br:kE.aU)(x1:Int)(x4:bS)(aL:aE)(bn:Int)(bm:Int):Option (bS×(Bool)):=
 cond (aG bm bn) (cond (aI bm (List.length aL)) (cond (ay ((List.getD aL bm.toNat aS).1) x1) (some (List.getD aL bm.toNat aS,true)) (br x1 x4 aL bn (W .i64 (bm+1)))) (none)) (some (aS,false))
def kE.l4(N:Nat):Nat→kE.aU
 |0,_,_,_,_,_=>none
 |n+1,x1,x4,aL,bn,bm=>kE.cj N (kE.l4 N n) x1 x4 aL bn bm
def kE.b(N:Nat)(cT:kE.aU)(a0:aE)(a1:Int):Option (bS×(Bool)):=
 (ja N a0).bind fun r1=>cond (!r1) (some (aS,false)) (cT a1 aS a0 (List.length a0:Int) (0:Int))
def kE(N:Nat)(a0:aE)(a1:Int):Option (bS×(Bool)):=kE.b N (kE.l4 N N) a0 a1
def F82(N:Nat)(a0:ag)(a1:Int):Option (Bool):=
 (kE N a0.2.1 a1).bind fun r1=>some r1.2
def F85(N:Nat)(a0:Int):Option (Bool):=
 cond (bR 1 a0) (some (bR a0 1000000000000)) (some false)
def F84(N:Nat)(a0:Int):Option (Bool):=
 (F85 N a0).bind fun r1=>some (!r1)
abbrev nr.bT:=(List (Int))→Unit→Int→Int→Option (Int)
def nr.ec(N:Nat)(cX:nr.bT)(x0:List (Int))(x1:Unit)(x7:Int)(x8:Int):Option (Int):=
 cond (aG x8 x7) (cond (aI x8 (List.length x0)) ((F84 N (List.getD x0 x8.toNat (0:Int))).bind fun r2=>cond (r2) (some x8) (cX x0 () x7 (W .i64 (x8+1)))) (none)) (some (-1:Int))
def nr.l2(N:Nat):Nat→nr.bT
 |0,_,_,_,_=>none
 |n+1,x0,x1,x7,x8=>nr.ec N (nr.l2 N n) x0 x1 x7 x8
def nr.b(N:Nat)(fx:nr.bT)(a0:List (Int))(a1:Unit):Option (Int):=
 fx a0 () (List.length a0:Int) (0:Int)
def nr(N:Nat)(a0:List (Int))(a1:Unit):Option (Int):=nr.b N (nr.l2 N N) a0 a1
def F83(N:Nat)(a0:List (Int))(a1:Unit):Option (Bool):=
 (nr N a0 ()).bind fun r1=>some (bR 0 r1)
abbrev ic.m6:=ae→ag→aW→Int→Int→Option (Bool)
abbrev ic.iQ:=ae→ag→ah→Int→Int→Option (Bool)
abbrev ic.aU:=ae→ag→ah→Int→Int→Option (Bool)
def ic.rV(N:Nat)(zF:ic.m6)(x2:ae)(x3:ag)(ns:aW)(R5:Int)(IZ:Int):Option (Bool):=
 cond (aG IZ R5) (cond (aI IZ (List.length ns)) ((F82 N x3 (((List.getD ns IZ.toNat eG).2).1)).bind fun Hy=>cond (!Hy) (some false) (cond (bR (List.length x2.1:Int) ((((List.getD ns IZ.toNat eG).2).2).1)) (some false) (zF x2 x3 ns R5 (W .i64 (IZ+1))))) (none)) ((F83 N x3.2.2.2.2.1 ()).bind fun zG=>some (!zG))
def ic.sS(N:Nat):Nat→ic.m6
 |0,_,_,_,_,_=>none
 |n+1,x2,x3,ns,R5,IZ=>ic.rV N (ic.sS N n) x2 x3 ns R5 IZ
def ic.qH(N:Nat)(zH:ic.m6)(jO:ic.iQ)(x2:ae)(x3:ag)(R6:ah)(O5:Int)(I0:Int):Option (Bool):=
 cond (aG I0 O5) (cond (aI I0 (List.length R6)) (cond (!ay ((List.getD R6 I0.toNat aR).1) (0:Int)) ((F82 N x3 ((List.getD R6 I0.toNat aR).1)).bind fun uX=>cond (!uX) (some false) (cond (bR (List.length x2.1:Int) (((List.getD R6 I0.toNat aR).2).1)) (some false) (jO x2 x3 R6 O5 (W .i64 (I0+1))))) (cond (bR (List.length x2.1:Int) (((List.getD R6 I0.toNat aR).2).1)) (some false) (jO x2 x3 R6 O5 (W .i64 (I0+1))))) (none)) (zH x2 x3 x3.2.2.2.2.2.1 (List.length x3.2.2.2.2.2.1:Int) (0:Int))
def ic.rU(N:Nat):Nat→ic.iQ
 |0,_,_,_,_,_=>none
 |n+1,x2,x3,R6,O5,I0=>ic.qH N (ic.sS N N) (ic.rU N n) x2 x3 R6 O5 I0
def ic.cj(N:Nat)(zI:ic.iQ)(br:ic.aU)(x2:ae)(x3:ag)(LY:ah)(Za:Int)(Kk:Int):Option (Bool):=
 cond (aG Kk Za) (cond (aI Kk (List.length LY)) (cond (ay ((List.getD LY Kk.toNat aR).1) (5:Int)) ((F82 N x3 (((List.getD LY Kk.toNat aR).2).1)).bind fun r9=>cond (!r9) (some false) (br x2 x3 LY Za (W .i64 (Kk+1)))) (cond (ay ((List.getD LY Kk.toNat aR).1) (6:Int)) ((uU N x3.1 (((List.getD LY Kk.toNat aR).2).1)).bind fun kT=>cond (ay kT 0) (some false) (br x2 x3 LY Za (W .i64 (Kk+1)))) (cond (ay ((List.getD LY Kk.toNat aR).1) (7:Int)) ((uU N x3.1 (((List.getD LY Kk.toNat aR).2).1)).bind fun nu=>cond (ay nu 0) (some false) (br x2 x3 LY Za (W .i64 (Kk+1)))) (br x2 x3 LY Za (W .i64 (Kk+1)))))) (none)) (zI x2 x3 x3.2.2.2.1 (List.length x3.2.2.2.1:Int) (0:Int))
def ic.l4(N:Nat):Nat→ic.aU
 |0,_,_,_,_,_=>none
 |n+1,x2,x3,LY,Za,Kk=>ic.cj N (ic.rU N N) (ic.l4 N n) x2 x3 LY Za Kk
def ic.b(N:Nat)(cT:ic.aU)(a0:ae)(a1:ag):Option (Bool):=
 (xg N a0).bind fun r1=>cond (!r1) (some false) ((xj N a1.1 a1.2.1).bind fun r2=>cond (!r2) (some false) ((vo N a1.2.2.1).bind fun r3=>cond (!r3) (some false) ((wC N a1.2.2.1).bind fun r4=>(YI N r4).bind fun r5=>cond (!ay r5 0) (some false) ((xk N a1.2.2.2.1).bind fun r6=>cond (!r6) (some false) ((xi N a1.2.2.2.2.2.1).bind fun r7=>cond (!r7) (some false) (cond (!ay (List.length a1.2.2.2.2.1:Int) (List.length a0.1:Int)) (some false) (cT a0 a1 a1.2.2.1 (List.length a1.2.2.1:Int) (0:Int))))))))
def ic(N:Nat)(a0:ae)(a1:ag):Option (Bool):=ic.b N (ic.l4 N N) a0 a1
abbrev xt.aU:=Int→Int→ah→Int→Int→Option (Int)
def xt.cj(N:Nat)(br:xt.aU)(x1:Int)(x2:Int)(aL:ah)(bn:Int)(bm:Int):Option (Int):=
 cond (aG bm bn) (cond (aI bm (List.length aL)) (cond (ay ((List.getD aL bm.toNat aR).1) x1) (cond (ay (((List.getD aL bm.toNat aR).2).1) x2) (some ((((List.getD aL bm.toNat aR).2).2).1)) (br x1 x2 aL bn (W .i64 (bm+1)))) (br x1 x2 aL bn (W .i64 (bm+1)))) (none)) (some (0:Int))
def xt.l4(N:Nat):Nat→xt.aU
 |0,_,_,_,_,_=>none
 |n+1,x1,x2,aL,bn,bm=>xt.cj N (xt.l4 N n) x1 x2 aL bn bm
def xt.b(N:Nat)(cT:xt.aU)(a0:ah)(a1:Int)(a2:Int):Option (Int):=
 (jH N a0).bind fun r1=>cond (!r1) (some (0:Int)) (cT a1 a2 a0 (List.length a0:Int) (0:Int))
def xt(N:Nat)(a0:ah)(a1:Int)(a2:Int):Option (Int):=xt.b N (xt.l4 N N) a0 a1 a2
def YE(N:Nat)(a0:Int):Option (Int):=
 cond (aG a0 0) (some (W .u64 (0-(W .u64 a0)))) (some (W .u64 a0))
def YR(N:Nat)(a0:Int):Option (Bool):=
 some (aG a0 0)
abbrev gP.bT:=(List (Int))→Unit→Int→Int→Option (Int)
def gP.ec(N:Nat)(cX:gP.bT)(x0:List (Int))(x1:Unit)(x7:Int)(x8:Int):Option (Int):=
 cond (aG x8 x7) (cond (aI x8 (List.length x0)) ((YR N (List.getD x0 x8.toNat (0:Int))).bind fun r2=>cond (r2) (some x8) (cX x0 () x7 (W .i64 (x8+1)))) (none)) (some (-1:Int))
def gP.l2(N:Nat):Nat→gP.bT
 |0,_,_,_,_=>none
 |n+1,x0,x1,x7,x8=>gP.ec N (gP.l2 N n) x0 x1 x7 x8
def gP.b(N:Nat)(fx:gP.bT)(a0:List (Int))(a1:Unit):Option (Int):=
 fx a0 () (List.length a0:Int) (0:Int)
def gP(N:Nat)(a0:List (Int))(a1:Unit):Option (Int):=gP.b N (gP.l2 N N) a0 a1
def YS(N:Nat)(a0:List (Int))(a1:Unit):Option (Bool):=
 (gP N a0 ()).bind fun r1=>some (bR 0 r1)
def Ly(N:Nat)(a0:List (Int)):Option (Bool):=
 cond (bR (List.length a0:Int) 64) ((YS N a0 ()).bind fun r1=>some (!r1)) (some false)
abbrev lD.cf:=Int→Int→(List (Int))→Int→Int→Option ((Int)×(Bool))
def lD.gZ(N:Nat)(bQ:lD.cf)(x4:Int)(x5:Int)(aO:List (Int))(aH:Int)(aL:Int):Option ((Int)×(Bool)):=
 cond (aG aL aH) (cond (aI aL (List.length aO)) ((pF N x5 (W .u64 (List.getD aO aL.toNat (0:Int))) (0:Int)).bind fun r3=>cond (aG 63 0) (none) (bQ (W .i64 ((W .i64 (x4+(shr .i64 (List.getD aO aL.toNat (0:Int)) (63:Int))))+(W .i64 r3.2))) r3.1 aO aH (W .i64 (aL+1)))) (none)) (cond (aG 63 0) (none) (cond (!ay x4 (shr .i64 (W .i64 x5) 63)) (some ((0:Int),false)) (some ((W .i64 x5),true))))
def lD.l3(N:Nat):Nat→lD.cf
 |0,_,_,_,_,_=>none
 |n+1,x4,x5,aO,aH,aL=>lD.gZ N (lD.l3 N n) x4 x5 aO aH aL
def lD.b(N:Nat)(iI:lD.cf)(a0:List (Int)):Option ((Int)×(Bool)):=
 iI (0:Int) (0:Int) a0 (List.length a0:Int) (0:Int)
def lD(N:Nat)(a0:List (Int)):Option ((Int)×(Bool)):=lD.b N (lD.l3 N N) a0
def QP(N:Nat)(a0:Int)(a1:Int):Option ((Int)×(Int)):=
 let v1:Int:=iV .and .u64 a0 4294967295;cond (aG 32 0) (none) (let v2:Int:=shr .u64 a0 32;let v3:Int:=iV .and .u64 a1 4294967295;cond (aG 32 0) (none) (let v4:Int:=shr .u64 a1 32;cond (aG 32 0) (none) (let v8:Int:=W .u64 ((W .u64 (v2*v3))+(shr .u64 (W .u64 (v1*v3)) (32:Int)));cond (aG 32 0) (none) (cond (aG 32 0) (none) (some ((W .u64 ((W .u64 ((W .u64 (v2*v4))+(shr .u64 v8 32)))+(shr .u64 (W .u64 ((iV .and .u64 v8 4294967295)+(W .u64 (v1*v4)))) (32:Int)))),(W .u64 (a0*a1))))))))
abbrev mE.I1:=Int→Int→bG→Option (bG×(Bool))
def mE.H4(N:Nat)(x1:Int)(x2:Int)(x6:bG):Option (bG×(Bool)):=
 (pG N (0:Int) x2 (0:Int)).bind fun r3=>(pG N (0:Int) x1 r3.2).bind fun r4=>some (((W .i64 r4.1),(r3.1,())),true)
def mE.j7(N:Nat)(x1:Int)(x2:Int)(x6:bG):Option (bG×(Bool)):=mE.H4 N x1 x2 x6
def mE.b(N:Nat)(vH:mE.I1)(a0:Bool)(a1:Int)(a2:Int):Option (bG×(Bool)):=
 cond (!a0) (cond (bR 9223372036854775808 a1) (some (ca,false)) (some (((W .i64 a1),(a2,())),true))) (cond (aG 9223372036854775808 a1) (some (ca,false)) (cond (ay a1 9223372036854775808) (cond (aG 0 a2) (some (ca,false)) (vH a1 a2 ca)) (vH a1 a2 ca)))
def mE(N:Nat)(a0:Bool)(a1:Int)(a2:Int):Option (bG×(Bool)):=mE.b N (mE.j7 N) a0 a1 a2
def Q0(N:Nat)(a0:Int)(a1:Int):Option bG:=
 (YE N a0).bind fun r1=>(YE N a1).bind fun r2=>(QP N r1 r2).bind fun r3=>(mE N (!(kV .bool (aG a0 0) (aG a1 0))) r3.1 r3.2).bind fun r4=>some r4.1
def Q1(N:Nat)(a0:bG):Option ((Int)×(Int)):=
 cond (bR 0 a0.1) (some ((W .u64 a0.1),a0.2.1)) ((pG N (0:Int) a0.2.1 (0:Int)).bind fun r2=>(pG N (0:Int) (W .u64 a0.1) r2.2).bind fun r4=>some (r4.1,r2.1))
abbrev iX.I1:=Int→Int→Option (Int)
abbrev iX.akr:=Int→Int→Option (Int)
def iX.H4(N:Nat)(x0:Int)(x2:Int):Option (Int):=
 cond (bR 256 x0) (cond (aG 8 0) (none) (let v8:Int:=W .u8 (shr .u64 x0 8);cond (aI v8 (ByteArray.size (strOf [0,1,2,2,3,3,3,3,4,4,4,4,4,4,4,4,5,5,5,5,5,5,5,5,5,5,5,5,5,5,5,5,6,6,6,6,6,6,6,6,6,6,6,6,6,6,6,6,6,6,6,6,6,6,6,6,6,6,6,6,6,6,6,6,7,7,7,7,7,7,7,7,7,7,7,7,7,7,7,7,7,7,7,7,7,7,7,7,7,7,7,7,7,7,7,7,7,7,7,7,7,7,7,7,7,7,7,7,7,7,7,7,7,7,7,7,7,7,7,7,7,7,7,7,7,7,7,7,8,8,8,8,8,8,8,8,8,8,8,8,8,8,8,8,8,8,8,8,8,8,8,8,8,8,8,8,8,8,8,8,8,8,8,8,8,8,8,8,8,8,8,8,8,8,8,8,8,8,8,8,8,8,8,8,8,8,8,8,8,8,8,8,8,8,8,8,8,8,8,8,8,8,8,8,8,8,8,8,8,8,8,8,8,8,8,8,8,8,8,8,8,8,8,8,8,8,8,8,8,8,8,8,8,8,8,8,8,8,8,8,8,8,8,8,8,8,8,8,8,8,8,8,8,8,8,8]))) (some (W .i64 ((W .i64 (x2+8))+(W .i64 (((strOf [0,1,2,2,3,3,3,3,4,4,4,4,4,4,4,4,5,5,5,5,5,5,5,5,5,5,5,5,5,5,5,5,6,6,6,6,6,6,6,6,6,6,6,6,6,6,6,6,6,6,6,6,6,6,6,6,6,6,6,6,6,6,6,6,7,7,7,7,7,7,7,7,7,7,7,7,7,7,7,7,7,7,7,7,7,7,7,7,7,7,7,7,7,7,7,7,7,7,7,7,7,7,7,7,7,7,7,7,7,7,7,7,7,7,7,7,7,7,7,7,7,7,7,7,7,7,7,7,8,8,8,8,8,8,8,8,8,8,8,8,8,8,8,8,8,8,8,8,8,8,8,8,8,8,8,8,8,8,8,8,8,8,8,8,8,8,8,8,8,8,8,8,8,8,8,8,8,8,8,8,8,8,8,8,8,8,8,8,8,8,8,8,8,8,8,8,8,8,8,8,8,8,8,8,8,8,8,8,8,8,8,8,8,8,8,8,8,8,8,8,8,8,8,8,8,8,8,8,8,8,8,8,8,8,8,8,8,8,8,8,8,8,8,8,8,8,8,8,8,8,8,8,8,8,8,8]).data.getD v8.toNat 0).toNat:Int))))) (none))) (let v11:Int:=W .u8 x0;cond (aI v11 (ByteArray.size (strOf [0,1,2,2,3,3,3,3,4,4,4,4,4,4,4,4,5,5,5,5,5,5,5,5,5,5,5,5,5,5,5,5,6,6,6,6,6,6,6,6,6,6,6,6,6,6,6,6,6,6,6,6,6,6,6,6,6,6,6,6,6,6,6,6,7,7,7,7,7,7,7,7,7,7,7,7,7,7,7,7,7,7,7,7,7,7,7,7,7,7,7,7,7,7,7,7,7,7,7,7,7,7,7,7,7,7,7,7,7,7,7,7,7,7,7,7,7,7,7,7,7,7,7,7,7,7,7,7,8,8,8,8,8,8,8,8,8,8,8,8,8,8,8,8,8,8,8,8,8,8,8,8,8,8,8,8,8,8,8,8,8,8,8,8,8,8,8,8,8,8,8,8,8,8,8,8,8,8,8,8,8,8,8,8,8,8,8,8,8,8,8,8,8,8,8,8,8,8,8,8,8,8,8,8,8,8,8,8,8,8,8,8,8,8,8,8,8,8,8,8,8,8,8,8,8,8,8,8,8,8,8,8,8,8,8,8,8,8,8,8,8,8,8,8,8,8,8,8,8,8,8,8,8,8,8,8]))) (some (W .i64 (x2+(W .i64 (((strOf [0,1,2,2,3,3,3,3,4,4,4,4,4,4,4,4,5,5,5,5,5,5,5,5,5,5,5,5,5,5,5,5,6,6,6,6,6,6,6,6,6,6,6,6,6,6,6,6,6,6,6,6,6,6,6,6,6,6,6,6,6,6,6,6,7,7,7,7,7,7,7,7,7,7,7,7,7,7,7,7,7,7,7,7,7,7,7,7,7,7,7,7,7,7,7,7,7,7,7,7,7,7,7,7,7,7,7,7,7,7,7,7,7,7,7,7,7,7,7,7,7,7,7,7,7,7,7,7,8,8,8,8,8,8,8,8,8,8,8,8,8,8,8,8,8,8,8,8,8,8,8,8,8,8,8,8,8,8,8,8,8,8,8,8,8,8,8,8,8,8,8,8,8,8,8,8,8,8,8,8,8,8,8,8,8,8,8,8,8,8,8,8,8,8,8,8,8,8,8,8,8,8,8,8,8,8,8,8,8,8,8,8,8,8,8,8,8,8,8,8,8,8,8,8,8,8,8,8,8,8,8,8,8,8,8,8,8,8,8,8,8,8,8,8,8,8,8,8,8,8,8,8,8,8,8,8]).data.getD v11.toNat 0).toNat:Int))))) (none))
def iX.j7(N:Nat)(x0:Int)(x2:Int):Option (Int):=iX.H4 N x0 x2
def iX.j4b(N:Nat)(vH:iX.I1)(x0:Int)(x2:Int):Option (Int):=
 cond (bR 65536 x0) (cond (aG 16 0) (none) (vH (shr .u64 x0 16) (W .i64 (x2+16)))) (vH x0 x2)
def iX.j4(N:Nat)(x0:Int)(x2:Int):Option (Int):=iX.j4b N (iX.j7 N) x0 x2
def iX.b(N:Nat)(aeK:iX.akr)(a0:Int):Option (Int):=
 cond (bR 4294967296 a0) (cond (aG 32 0) (none) (aeK (shr .u64 a0 32) (32:Int))) (aeK a0 (0:Int))
def iX(N:Nat)(a0:Int):Option (Int):=iX.b N (iX.j4 N) a0
def QR(N:Nat)(a0:Int):Option (Int):=
 (iX N a0).bind fun r1=>some (W .i64 ((64:Int)-r1))
abbrev cL.aeL:=Int→Int→Int→Int→Int→Int→Option ((Int)×(Int))
abbrev cL.m7:=Int→Int→Int→Int→Int→Int→Int→Int→Int→Option ((Int)×(Int))
abbrev cL.O6:=Int→Int→Int→Int→Int→Int→Int→Int→Option ((Int)×(Int))
abbrev cL.zJ:=Int→Int→Int→Int→Int→Int→Int→Int→Int→Option ((Int)×(Int))
def cL.YG(N:Nat)(x2:Int)(x8:Int)(bm:Int)(bU:Int)(cV:Int)(fU:Int):Option ((Int)×(Int)):=
 cond (aG x8 0) (none) (some ((W .u64 ((W .u64 (bU*4294967296))+fU)),(shr .u64 (W .u64 ((W .u64 ((W .u64 (cV*4294967296))+bm))-(W .u64 (fU*x2)))) x8)))
def cL.WN(N:Nat)(x2:Int)(x8:Int)(bm:Int)(bU:Int)(cV:Int)(fU:Int):Option ((Int)×(Int)):=cL.YG N x2 x8 bm bU cV fU
def cL.yQ(N:Nat)(O7:cL.aeL)(m8:cL.m7)(x2:Int)(x8:Int)(x9:Int)(aO:Int)(bm:Int)(bU:Int)(cG:Int)(cV:Int)(fU:Int):Option ((Int)×(Int)):=
 cond (bR 4294967296 fU) (let v30:Int:=W .u64 (fU-1);let v31:Int:=W .u64 (cG+x9);cond (bR 4294967296 v31) (O7 x2 x8 bm bU cV v30) (m8 x2 x8 x9 aO bm bU v31 cV v30)) (cond (aG (W .u64 ((W .u64 ((4294967296:Int)*cG))+bm)) (W .u64 (fU*aO))) (let v43:Int:=W .u64 (fU-1);let v44:Int:=W .u64 (cG+x9);cond (bR 4294967296 v44) (O7 x2 x8 bm bU cV v43) (m8 x2 x8 x9 aO bm bU v44 cV v43)) (O7 x2 x8 bm bU cV fU))
def cL.xN(N:Nat):Nat→cL.m7
 |0,_,_,_,_,_,_,_,_,_=>none
 |n+1,x2,x8,x9,aO,bm,bU,cG,cV,fU=>cL.yQ N (cL.WN N) (cL.xN N n) x2 x8 x9 aO bm bU cG cV fU
def cL.H5(N:Nat)(FT:cL.m7)(x2:Int)(x8:Int)(x9:Int)(aO:Int)(aH:Int)(bn:Int)(bm:Int)(bU:Int):Option ((Int)×(Int)):=
 let v25:Int:=W .u64 ((W .u64 ((W .u64 (aH*4294967296))+bn))-(W .u64 (bU*x2)));cond (ay x9 0) (none) (let v26:Int:=W .u64 (quo v25 x9);FT x2 x8 x9 aO bm bU (W .u64 (v25-(W .u64 (v26*x9)))) v25 v26)
def cL.Mj(N:Nat)(x2:Int)(x8:Int)(x9:Int)(aO:Int)(aH:Int)(bn:Int)(bm:Int)(bU:Int):Option ((Int)×(Int)):=cL.H5 N (cL.xN N N) x2 x8 x9 aO aH bn bm bU
def cL.EO(N:Nat)(BY:cL.O6)(Kl:cL.zJ)(x2:Int)(x8:Int)(x9:Int)(aO:Int)(aH:Int)(bn:Int)(bm:Int)(bU:Int)(cG:Int):Option ((Int)×(Int)):=
 cond (bR 4294967296 bU) (let v19:Int:=W .u64 (bU-1);let v20:Int:=W .u64 (cG+x9);cond (bR 4294967296 v20) (BY x2 x8 x9 aO aH bn bm v19) (Kl x2 x8 x9 aO aH bn bm v19 v20)) (cond (aG (W .u64 ((W .u64 ((4294967296:Int)*cG))+bn)) (W .u64 (bU*aO))) (let v48:Int:=W .u64 (bU-1);let v49:Int:=W .u64 (cG+x9);cond (bR 4294967296 v49) (BY x2 x8 x9 aO aH bn bm v48) (Kl x2 x8 x9 aO aH bn bm v48 v49)) (BY x2 x8 x9 aO aH bn bm bU))
def cL.EN(N:Nat):Nat→cL.zJ
 |0,_,_,_,_,_,_,_,_,_=>none
 |n+1,x2,x8,x9,aO,aH,bn,bm,bU,cG=>cL.EO N (cL.Mj N) (cL.EN N n) x2 x8 x9 aO aH bn bm bU cG
def cL.b(N:Nat)(O8:cL.zJ)(a0:Int)(a1:Int)(a2:Int):Option ((Int)×(Int)):=
 cond (ay a2 0) (none) (cond (bR a2 a0) (none) (cond (ay a0 0) (cond (ay a2 0) (none) (cond (ay a2 0) (none) (some ((W .u64 (quo a1 a2)),(rem a1 a2))))) ((QR N a2).bind fun r3=>let v4:Int:=W .u64 r3;cond (aG v4 0) (none) (let v5:Int:=W .u64 (shl .u64 a2 v4);cond (aG 32 0) (none) (let v6:Int:=shr .u64 v5 32;cond (aG v4 0) (none) (let v9:Int:=W .u64 ((64:Int)-v4);cond (aG v9 0) (none) (let v11:Int:=iV .or .u64 (W .u64 (shl .u64 a0 v4)) (shr .u64 a1 v9);cond (aG v4 0) (none) (let W2:Int:=W .u64 (shl .u64 a1 v4);cond (aG 32 0) (none) (cond (ay v6 0) (none) (let Mm:Int:=W .u64 (quo v11 v6);O8 v5 v4 v6 (iV .and .u64 v5 4294967295) v11 (shr .u64 W2 32) (iV .and .u64 W2 4294967295) Mm (W .u64 (v11-(W .u64 (Mm*v6))))))))))))))
def cL(N:Nat)(a0:Int)(a1:Int)(a2:Int):Option ((Int)×(Int)):=cL.b N (cL.EN N N) a0 a1 a2
abbrev ov.FU:=bG→Int→Int→Int→Option (bG×(Int)×(Bool))
def ov.tV(N:Nat)(x4:bG)(aO:Int)(aH:Int)(aL:Int):Option (bG×(Int)×(Bool)):=
 (mE N true aO aL).bind fun kT=>some (kT.1,(W .i64 aH),true)
def ov.CH(N:Nat)(x4:bG)(aO:Int)(aH:Int)(aL:Int):Option (bG×(Int)×(Bool)):=ov.tV N x4 aO aH aL
def ov.b(N:Nat)(pN:ov.FU)(a0:bG)(a1:Int):Option (bG×(Int)×(Bool)):=
 cond (aG a1 1) (some (ca,(0:Int),false)) ((Q1 N a0).bind fun r1=>let v2:Int:=W .u64 a1;(cL N (0:Int) r1.1 v2).bind fun r3=>(cL N r3.2 r1.2 v2).bind fun r4=>cond (bR 0 a0.1) (some (((W .i64 r3.1),(r4.1,())),(W .i64 r4.2),true)) (cond (aG 0 r4.2) ((pF N r4.1 (1:Int) (0:Int)).bind fun r7=>pN ca (W .u64 (r3.1+r7.2)) (W .u64 (v2-r4.2)) r7.1) (pN ca r3.1 r4.2 r4.1)))
def ov(N:Nat)(a0:bG)(a1:Int):Option (bG×(Int)×(Bool)):=ov.b N (ov.CH N) a0 a1
def CJ(N:Nat)(a0:bG):Option ((Int)×(Bool)):=
 cond (aG 63 0) (none) (cond (!ay a0.1 (shr .i64 (W .i64 a0.2.1) 63)) (some ((0:Int),false)) (some ((W .i64 a0.2.1),true)))
def YQ(N:Nat)(a0:List (Int)):Option (List (Int)):=
 cond (fB 0 (List.length a0:Int) (List.length a0:Int) (List.length a0:Int)) (some (List.drop (0:Int).toNat (List.take (List.length a0:Int).toNat a0))) (none)
abbrev e7.fa:=(List (Int))→(List (Int))→Int→Int→Int→Int→Option (List (Int))
abbrev e7.cf:=(List (Int))→(List (Int))→Int→Int→Option (List (Int))
def e7.oI(N:Nat)(bQ:e7.cf)(fL:e7.fa)(x0:List (Int))(x3:List (Int))(x4:Int)(x5:Int)(aO:Int)(aH:Int):Option (List (Int)):=
 cond (aG 0 x5) (let v4:Int:=W .i64 (x5-1);cond (aI v4 (List.length x3)) (cond (aI (List.getD x3 v4.toNat (0:Int)) (List.length x0)) (cond (aI x4 (List.length x0)) (cond (aG (List.getD x0 (List.getD x3 v4.toNat (0:Int)).toNat (0:Int)) (List.getD x0 x4.toNat (0:Int))) (fL x0 x3 x4 (W .i64 (x5-1)) aO aH) ((gq N x3 x5 ([x4])).bind fun r6=>bQ x0 r6 aO (W .i64 (aH+1)))) (none)) (none)) (none)) ((gq N x3 x5 ([x4])).bind fun r8=>bQ x0 r8 aO (W .i64 (aH+1)))
def e7.l6(N:Nat)(bQ:e7.cf):Nat→e7.fa
 |0,_,_,_,_,_,_=>none
 |n+1,x0,x3,x4,x5,aO,aH=>e7.oI N bQ (e7.l6 N bQ n) x0 x3 x4 x5 aO aH
def e7.gZ(N:Nat)(pC:e7.fa)(bQ:e7.cf)(x0:List (Int))(x3:List (Int))(aO:Int)(aH:Int):Option (List (Int)):=
 cond (aG aH aO) (pC x0 x3 aH (List.length x3:Int) aO aH) ((YQ N x3).bind fun jF=>some jF)
def e7.l3(N:Nat):Nat→e7.cf
 |0,_,_,_,_=>none
 |n+1,x0,x3,aO,aH=>e7.gZ N (e7.l6 N (e7.l3 N n) N) (e7.l3 N n) x0 x3 aO aH
def e7.b(N:Nat)(iI:e7.cf)(a0:List (Int)):Option (List (Int)):=
 cond (dS 0 (List.length a0:Int)) (iI a0 (List.replicate (0:Int).toNat (0:Int)) (List.length a0:Int) (0:Int)) (none)
def e7(N:Nat)(a0:List (Int)):Option (List (Int)):=e7.b N (e7.l3 N N) a0
abbrev dJ.qV:=(List (Int))→(List (Int))→Int→Int→Option ((List (Int))×(Int))
abbrev dJ.dP:=Int→Int→(List (Int))→(List (Int))→Int→(List (Int))→Int→Int→Option ((List (Int))×(Int))
abbrev dJ.I2:=Int→(List (Int))→Int→Option ((List (Int))×(Int))
def dJ.uC(N:Nat)(qW:dJ.qV)(x8:List (Int))(W3:List (Int))(x89:Int)(R7:Int):Option ((List (Int))×(Int)):=
 cond (aG R7 x89) (cond (aI R7 (List.length W3)) (cond (aI (List.getD W3 R7.toNat (0:Int)) (List.length x8)) (cond (aI (List.getD W3 R7.toNat (0:Int)) (List.length x8)) (qW (List.set x8 (List.getD W3 R7.toNat (0:Int)).toNat (W .i64 ((List.getD x8 (List.getD W3 R7.toNat (0:Int)).toNat (0:Int))+1))) W3 x89 (W .i64 (R7+1))) (none)) (none)) (none)) (some (x8,(0:Int)))
def dJ.sX(N:Nat):Nat→dJ.qV
 |0,_,_,_,_=>none
 |n+1,x8,W3,x89,R7=>dJ.uC N (dJ.sX N n) x8 W3 x89 R7
def dJ.j2(N:Nat)(FV:dJ.qV)(fi:dJ.dP)(x0:Int)(x6:Int)(x8:List (Int))(x9:List (Int))(aO:Int)(x50:List (Int))(x51:Int)(Mn:Int):Option ((List (Int))×(Int)):=
 cond (aG Mn x51) (cond (aI Mn (List.length x50)) ((Q0 N x0 (List.getD x50 Mn.toNat (0:Int))).bind fun r7=>(ov N r7 x6).bind fun r8=>(CJ N r8.1).bind fun r9=>cond (aI Mn (List.length x8)) (let v10:List (Int):=List.set x8 Mn.toNat r9.1;cond (aI Mn (List.length x9)) (cond (aI Mn (List.length v10)) (fi x0 x6 v10 (List.set x9 Mn.toNat r8.2.1) (W .i64 (aO-(List.getD v10 Mn.toNat (0:Int)))) x50 x51 (W .i64 (Mn+1))) (none)) (none)) (none)) (none)) ((e7 N x9).bind fun n8=>cond (fB 0 aO (List.length n8:Int) (List.length n8:Int)) (let Mm:List (Int):=List.drop (0:Int).toNat (List.take aO.toNat n8);FV x8 Mm (List.length Mm:Int) (0:Int)) (none))
def dJ.lH(N:Nat):Nat→dJ.dP
 |0,_,_,_,_,_,_,_,_=>none
 |n+1,x0,x6,x8,x9,aO,x50,x51,Mn=>dJ.j2 N (dJ.sX N N) (dJ.lH N n) x0 x6 x8 x9 aO x50 x51 Mn
def dJ.IC(N:Nat)(oD:dJ.dP)(x0:Int)(x1:List (Int))(x6:Int):Option ((List (Int))×(Int)):=
 cond (dS (List.length x1:Int) (List.length x1:Int)) (let v4:List (Int):=List.replicate (List.length x1:Int).toNat (0:Int);cond (dS (List.length x1:Int) (List.length x1:Int)) (cond (ay x0 0) (some (v4,(0:Int))) (oD x0 x6 v4 (List.replicate (List.length x1:Int).toNat (0:Int)) x0 x1 (List.length x1:Int) (0:Int))) (none)) (none)
def dJ.j8(N:Nat)(x0:Int)(x1:List (Int))(x6:Int):Option ((List (Int))×(Int)):=dJ.IC N (dJ.lH N N) x0 x1 x6
def dJ.b(N:Nat)(zK:dJ.I2)(a0:Int)(a1:List (Int)):Option ((List (Int))×(Int)):=
 cond (aG a0 0) (some ([],(1:Int))) ((Ly N a1).bind fun r1=>cond (!r1) (some ([],(1:Int))) ((lD N a1).bind fun r2=>cond (!r2.2) (some ([],(2:Int))) (cond (ay r2.1 0) (cond (aG 0 a0) (some ([],(1:Int))) (zK a0 a1 r2.1)) (zK a0 a1 r2.1))))
def dJ(N:Nat)(a0:Int)(a1:List (Int)):Option ((List (Int))×(Int)):=dJ.b N (dJ.j8 N) a0 a1
abbrev jB.m9:=(List (Int))→(List (Int))→(List (Int))→Int→(List (Int))→Int→Int→Option ((List (Int))×(Int)×(Int))
abbrev jB.O9:=(List (Int))→(List (Int))→(List (Int))→Int→(List (Int))→Int→Int→Option ((List (Int))×(Int)×(Int))
abbrev jB.cJ:=(List (Int))→(List (Int))→(List (Int))→Int→Option ((List (Int))×(Int)×(Int))
def jB.uH(N:Nat)(cz:jB.cJ)(uN:jB.m9)(x1:List (Int))(x2:List (Int))(aH:List (Int))(aL:Int)(O5:List (Int))(I0:Int)(Km:Int):Option ((List (Int))×(Int)×(Int)):=
 cond (aG Km I0) (cond (aI Km (List.length O5)) (cond (aI Km (List.length x2)) (cond (aI Km (List.length aH)) (let P1:Int:=mn (List.getD O5 Km.toNat (0:Int)) (W .i64 ((List.getD x2 Km.toNat (0:Int))-(List.getD aH Km.toNat (0:Int))));cond (aI Km (List.length aH)) (cond (aI Km (List.length aH)) (uN x1 x2 (List.set aH Km.toNat (W .i64 ((List.getD aH Km.toNat (0:Int))+P1))) (W .i64 (aL-P1)) O5 I0 (W .i64 (Km+1))) (none)) (none)) (none)) (none)) (none)) (cz x1 x2 aH aL)
def jB.xr(N:Nat)(cz:jB.cJ):Nat→jB.m9
 |0,_,_,_,_,_,_,_=>none
 |n+1,x1,x2,aH,aL,O5,I0,Km=>jB.uH N cz (jB.xr N cz n) x1 x2 aH aL O5 I0 Km
def jB.YU(N:Nat)(zL:jB.m9)(cz:jB.cJ)(W4:jB.O9)(x1:List (Int))(x2:List (Int))(aH:List (Int))(aL:Int)(bn:List (Int))(Aa:Int)(sr:Int):Option ((List (Int))×(Int)×(Int)):=
 cond (aG sr Aa) (cond (aI sr (List.length aH)) (cond (aI sr (List.length x2)) (cond (aG (List.getD aH sr.toNat (0:Int)) (List.getD x2 sr.toNat (0:Int))) (cond (aI sr (List.length x1)) (cond (aI sr (List.length bn)) (W4 x1 x2 aH aL (List.set bn sr.toNat (List.getD x1 sr.toNat (0:Int))) Aa (W .i64 (sr+1))) (none)) (none)) (W4 x1 x2 aH aL bn Aa (W .i64 (sr+1)))) (none)) (none)) ((dJ N aL bn).bind fun kT=>cond (!ay kT.2 0) (some (aH,aL,(0:Int))) (zL x1 x2 aH aL kT.1 (List.length kT.1:Int) (0:Int)))
def jB.l10(N:Nat)(cz:jB.cJ):Nat→jB.O9
 |0,_,_,_,_,_,_,_=>none
 |n+1,x1,x2,aH,aL,bn,Aa,sr=>jB.YU N (jB.xr N cz N) cz (jB.l10 N cz n) x1 x2 aH aL bn Aa sr
def jB.lC(N:Nat)(aeN:jB.O9)(cz:jB.cJ)(x1:List (Int))(x2:List (Int))(aH:List (Int))(aL:Int):Option ((List (Int))×(Int)×(Int)):=
 cond (aG 0 aL) (cond (dS (List.length x1:Int) (List.length x1:Int)) (aeN x1 x2 aH aL (List.replicate (List.length x1:Int).toNat (0:Int)) (List.length x1:Int) (0:Int)) (none)) (some (aH,aL,(0:Int)))
def jB.l7(N:Nat):Nat→jB.cJ
 |0,_,_,_,_=>none
 |n+1,x1,x2,aH,aL=>jB.lC N (jB.l10 N (jB.l7 N n) N) (jB.l7 N n) x1 x2 aH aL
def jB.b(N:Nat)(nc:jB.cJ)(a0:Int)(a1:List (Int))(a2:List (Int)):Option ((List (Int))×(Int)×(Int)):=
 cond (aG a0 0) (some ([],(0:Int),(1:Int))) ((Ly N a1).bind fun r1=>cond (!r1) (some ([],(0:Int),(1:Int))) (cond (!ay (List.length a2:Int) (List.length a1:Int)) (some ([],(0:Int),(1:Int))) ((Ly N a2).bind fun r2=>cond (!r2) (some ([],(0:Int),(1:Int))) ((lD N a1).bind fun r3=>cond (!r3.2) (some ([],(0:Int),(2:Int))) (cond (dS (List.length a1:Int) (List.length a1:Int)) (nc a1 a2 (List.replicate (List.length a1:Int).toNat (0:Int)) a0) (none))))))
def jB(N:Nat)(a0:Int)(a1:List (Int))(a2:List (Int)):Option ((List (Int))×(Int)×(Int)):=jB.b N (jB.l7 N N) a0 a1 a2
abbrev ln.qV:=Int→Int→(List (Int))→ah→(List (Int))→Int→Int→Option (ah×(Int))
abbrev ln.nf:=Int→Int→(List (Int))→(List (Int))→ah→Int→Int→Option (ah×(Int))
def ln.uC(N:Nat)(qW:ln.qV)(x2:Int)(x8:Int)(x9:List (Int))(cG:ah)(Pb:List (Int))(Zb:Int)(DK:Int):Option (ah×(Int)):=
 cond (aG DK Zb) (cond (aI DK (List.length Pb)) (cond (aG x8 0) (let P2:Int:=W .i64 (0-(List.getD Pb DK.toNat (0:Int)));cond (!ay P2 0) (cond (aI DK (List.length x9)) (cond (small (List.length cG+List.length ([(List.getD x9 DK.toNat (0:Int),(x2,(P2,())))]))) (qW x2 x8 x9 (cG++([(List.getD x9 DK.toNat (0:Int),(x2,(P2,())))])) Pb Zb (W .i64 (DK+1))) (none)) (none)) (qW x2 x8 x9 cG Pb Zb (W .i64 (DK+1)))) (cond (!ay (List.getD Pb DK.toNat (0:Int)) (0:Int)) (cond (aI DK (List.length x9)) (cond (small (List.length cG+List.length ([(List.getD x9 DK.toNat (0:Int),(x2,(List.getD Pb DK.toNat (0:Int),())))]))) (qW x2 x8 x9 (cG++([(List.getD x9 DK.toNat (0:Int),(x2,(List.getD Pb DK.toNat (0:Int),())))])) Pb Zb (W .i64 (DK+1))) (none)) (none)) (qW x2 x8 x9 cG Pb Zb (W .i64 (DK+1))))) (none)) (some (cG,(0:Int)))
def ln.sX(N:Nat):Nat→ln.qV
 |0,_,_,_,_,_,_,_=>none
 |n+1,x2,x8,x9,cG,Pb,Zb,DK=>ln.uC N (ln.sX N n) x2 x8 x9 cG Pb Zb DK
def ln.pW(N:Nat)(FV:ln.qV)(nQ:ln.nf)(x2:Int)(x8:Int)(x9:List (Int))(aO:List (Int))(LZ:ah)(Zc:Int)(Ko:Int):Option (ah×(Int)):=
 cond (aG Ko Zc) (cond (aI Ko (List.length LZ)) (cond (!ay ((List.getD LZ Ko.toNat aR).1) (0:Int)) (cond (ay (((List.getD LZ Ko.toNat aR).2).1) x2) (cond (!(kV .bool (aG ((((List.getD LZ Ko.toNat aR).2).2).1) (0:Int)) (aG x8 0))) (cond (small (List.length x9+List.length ([(List.getD LZ Ko.toNat aR).1]))) ((YE N ((((List.getD LZ Ko.toNat aR).2).2).1)).bind fun r5=>let v6:Int:=W .i64 r5;cond (small (List.length aO+List.length ([v6]))) (nQ x2 x8 (x9++([(List.getD LZ Ko.toNat aR).1])) (aO++([v6])) LZ Zc (W .i64 (Ko+1))) (none)) (none)) (nQ x2 x8 x9 aO LZ Zc (W .i64 (Ko+1)))) (nQ x2 x8 x9 aO LZ Zc (W .i64 (Ko+1)))) (nQ x2 x8 x9 aO LZ Zc (W .i64 (Ko+1)))) (none)) ((YE N x8).bind fun ma=>(jB N (W .i64 ma) aO aO).bind fun n8=>cond (!ay n8.2.2 0) (some ([],n8.2.2)) (FV x2 x8 x9 ([((0:Int),(x2,((W .i64 (0-x8)),())))]) n8.1 (List.length n8.1:Int) (0:Int)))
def ln.s4(N:Nat):Nat→ln.nf
 |0,_,_,_,_,_,_,_=>none
 |n+1,x2,x8,x9,aO,LZ,Zc,Ko=>ln.pW N (ln.sX N N) (ln.s4 N n) x2 x8 x9 aO LZ Zc Ko
def ln.b(N:Nat)(zM:ln.nf)(a0:ae)(a1:ag)(a2:Int):Option (ah×(Int)):=
 (ic N a0 a1).bind fun r1=>cond (!r1) (some ([],(1:Int))) (cond (aG a2 0) (some ([],(3:Int))) (cond (bR (List.length a0.1:Int) a2) (some ([],(3:Int))) ((xt N a1.2.2.2.1 (0:Int) a2).bind fun r2=>cond (ay r2 0) (some ([],(0:Int))) (zM a2 r2 ([]) ([]) a1.2.2.2.1 (List.length a1.2.2.2.1:Int) (0:Int)))))
def ln(N:Nat)(a0:ae)(a1:ag)(a2:Int):Option (ah×(Int)):=ln.b N (ln.s4 N N) a0 a1 a2
def Rs(N:Nat)(a0:ag):Option ag:=
 (jQ N a0.1).bind fun r1=>(jQ N a0.2.1).bind fun r2=>(jQ N a0.2.2.1).bind fun r3=>(jQ N a0.2.2.2.1).bind fun r4=>(jQ N a0.2.2.2.2.1).bind fun r5=>(jQ N a0.2.2.2.2.2.1).bind fun r6=>some (r1,(r2,(r3,(r4,(r5,(r6,()))))))
abbrev dR.fa:=ah→Int→gY→Int→ah→Int→Int→Option (Bool)
abbrev dR.bT:=ah→Int→Option (Bool)
def dR.oI(N:Nat)(cX:dR.bT)(fL:dR.fa)(x0:ah)(x3:Int)(x4:gY)(x9:Int)(aL:ah)(bn:Int)(bm:Int):Option (Bool):=
 cond (aG bm bn) (cond (aI bm (List.length aL)) (cond (ay (((List.getD aL bm.toNat aR).2).1) x3) ((Q4 N ((((List.getD aL bm.toNat aR).2).2).1)).bind fun r3=>cond (small (List.length x4+List.length ([r3]))) (fL x0 x3 (x4++([r3])) x9 aL bn (W .i64 (bm+1))) (none)) (fL x0 x3 x4 x9 aL bn (W .i64 (bm+1)))) (none)) ((jn N x4).bind fun r7=>cond (!r7.2) (some false) ((YI N r7.1).bind fun r8=>cond (!ay r8 0) (some false) (cX x0 (W .i64 (x9+1)))))
def dR.l6(N:Nat)(cX:dR.bT):Nat→dR.fa
 |0,_,_,_,_,_,_,_=>none
 |n+1,x0,x3,x4,x9,aL,bn,bm=>dR.oI N cX (dR.l6 N cX n) x0 x3 x4 x9 aL bn bm
def dR.ec(N:Nat)(pC:dR.fa)(cX:dR.bT)(x0:ah)(x9:Int):Option (Bool):=
 cond (aG x9 6) (pC x0 x9 ([]) x9 x0 (List.length x0:Int) (0:Int)) (some true)
def dR.l2(N:Nat):Nat→dR.bT
 |0,_,_=>none
 |n+1,x0,x9=>dR.ec N (dR.l6 N (dR.l2 N n) N) (dR.l2 N n) x0 x9
def dR.b(N:Nat)(fx:dR.bT)(a0:ah):Option (Bool):=
 fx a0 (0:Int)
def dR(N:Nat)(a0:ah):Option (Bool):=dR.b N (dR.l2 N N) a0
def Rg(N:Nat)(a0:ah):Option ah:=
 cond (fB 0 (List.length a0:Int) (List.length a0:Int) (List.length a0:Int)) (some (List.drop (0:Int).toNat (List.take (List.length a0:Int).toNat a0))) (none)
abbrev bs.aeO:=ah→ah→cE→Int→ah→Int→Int→Option (ah×(Int))
abbrev bs.iQ:=ah→ah→cE→Int→ah→Int→Int→Option (ah×(Int))
abbrev bs.Pd:=ah→ah→cE→gY→ah→Int→Int→ah→Int→Int→Option (ah×(Int))
abbrev bs.Bs:=ah→ah→ah→Int→Int→Option (ah×(Int))
abbrev bs.dP:=ah→ah→ah→Int→Int→Option (ah×(Int))
abbrev bs.aU:=ah→ah→ah→Int→Int→Option (ah×(Int))
def bs.YK(N:Nat)(fi:bs.dP)(x1:ah)(x8:ah)(aO:cE)(aH:Int)(FW:ah)(Aa:Int)(sr:Int):Option (ah×(Int)):=
 cond (ay aH (List.length x8:Int)) ((gq N x8 aH ([(aO.1,(aO.2.1,((0:Int),())))])).bind fun nu=>fi x1 nu FW Aa (W .i64 (sr+1))) (cond (aI aH (List.length x8)) ((Lc N aO.1 aO.2.1 (List.getD x8 aH.toNat aR)).bind fun ss=>cond (!ay ss 0) ((gq N x8 aH ([(aO.1,(aO.2.1,((0:Int),())))])).bind fun vI=>fi x1 vI FW Aa (W .i64 (sr+1))) (fi x1 x8 FW Aa (W .i64 (sr+1)))) (none))
def bs.j18(N:Nat)(fi:bs.dP)(x1:ah)(x8:ah)(aO:cE)(aH:Int)(FW:ah)(Aa:Int)(sr:Int):Option (ah×(Int)):=bs.YK N fi x1 x8 aO aH FW Aa sr
def bs.qH(N:Nat)(W5:bs.aeO)(fi:bs.dP)(jO:bs.iQ)(x1:ah)(x8:ah)(aO:cE)(aH:Int)(FW:ah)(Aa:Int)(sr:Int):Option (ah×(Int)):=
 cond (aG aH (List.length x8:Int)) (cond (aI aH (List.length x8)) ((Lc N aO.1 aO.2.1 (List.getD x8 aH.toNat aR)).bind fun jF=>cond (aG 0 jF) (jO x1 x8 aO (W .i64 (aH+1)) FW Aa sr) (W5 x1 x8 aO aH FW Aa sr)) (none)) (W5 x1 x8 aO aH FW Aa sr)
def bs.rU(N:Nat)(fi:bs.dP):Nat→bs.iQ
 |0,_,_,_,_,_,_,_=>none
 |n+1,x1,x8,aO,aH,FW,Aa,sr=>bs.qH N (bs.j18 N fi) fi (bs.rU N fi n) x1 x8 aO aH FW Aa sr
def bs.Rh(N:Nat)(BZ:bs.Bs)(Pe:bs.Pd)(x1:ah)(aL:ah)(bm:cE)(bU:gY)(uO:ah)(xx:Int)(ns:Int)(Dp:ah)(L0:Int)(AP:Int):Option (ah×(Int)):=
 cond (aG AP L0) (cond (aI AP (List.length Dp)) (cond (ay ((List.getD Dp AP.toNat aR).1) bm.1) (cond (ay (((List.getD Dp AP.toNat aR).2).1) bm.2.1) ((Q4 N ((((List.getD Dp AP.toNat aR).2).2).1)).bind fun zG=>cond (small (List.length bU+List.length ([zG]))) (Pe x1 aL bm (bU++([zG])) uO xx ns Dp L0 (W .i64 (AP+1))) (none)) (Pe x1 aL bm bU uO xx ns Dp L0 (W .i64 (AP+1)))) (Pe x1 aL bm bU uO xx ns Dp L0 (W .i64 (AP+1)))) (none)) ((jn N bU).bind fun W6=>(CJ N W6.1).bind fun B0=>cond (!B0.2) (some (bq,(2:Int))) ((Ld N B0.1).bind fun I3=>cond (!I3) (some (bq,(2:Int))) (cond (!ay B0.1 0) (cond (small (List.length aL+List.length ([(bm.1,(bm.2.1,(B0.1,())))]))) (BZ x1 (aL++([(bm.1,(bm.2.1,(B0.1,())))])) uO xx (W .i64 (ns+1))) (none)) (BZ x1 aL uO xx (W .i64 (ns+1))))))
def bs.WR(N:Nat)(BZ:bs.Bs):Nat→bs.Pd
 |0,_,_,_,_,_,_,_,_,_,_=>none
 |n+1,x1,aL,bm,bU,uO,xx,ns,Dp,L0,AP=>bs.Rh N BZ (bs.WR N BZ n) x1 aL bm bU uO xx ns Dp L0 AP
def bs.Rj(N:Nat)(aeP:bs.Pd)(BZ:bs.Bs)(x1:ah)(aL:ah)(uO:ah)(xx:Int)(ns:Int):Option (ah×(Int)):=
 cond (aG ns xx) (cond (aI ns (List.length uO)) ((Q4 N ((((List.getD uO ns.toNat aR).2).2).1)).bind fun Hy=>aeP x1 aL (List.getD uO ns.toNat aR) ([Hy]) uO xx ns x1 (List.length x1:Int) (0:Int)) (none)) ((Rg N aL).bind fun Pf=>some (Pf,(0:Int)))
def bs.Ri(N:Nat):Nat→bs.Bs
 |0,_,_,_,_,_=>none
 |n+1,x1,aL,uO,xx,ns=>bs.Rj N (bs.WR N (bs.Ri N n) N) (bs.Ri N n) x1 aL uO xx ns
def bs.j2(N:Nat)(zI:bs.iQ)(aeQ:bs.Bs)(fi:bs.dP)(x1:ah)(x8:ah)(FW:ah)(Aa:Int)(sr:Int):Option (ah×(Int)):=
 cond (aG sr Aa) (cond (aI sr (List.length FW)) (zI x1 x8 (List.getD FW sr.toNat aR) (0:Int) FW Aa sr) (none)) (cond (dS 0 (List.length x8:Int)) (aeQ x1 (List.replicate (0:Int).toNat aR) x8 (List.length x8:Int) (0:Int)) (none))
def bs.lH(N:Nat):Nat→bs.dP
 |0,_,_,_,_,_=>none
 |n+1,x1,x8,FW,Aa,sr=>bs.j2 N (bs.rU N (bs.lH N n) N) (bs.Ri N N) (bs.lH N n) x1 x8 FW Aa sr
def bs.cj(N:Nat)(oD:bs.dP)(br:bs.aU)(x0:ah)(x1:ah)(Zd:ah)(x31:Int)(W7:Int):Option (ah×(Int)):=
 cond (aG W7 x31) (cond (aI W7 (List.length Zd)) ((NK N ((List.getD Zd W7.toNat aR).1) (((List.getD Zd W7.toNat aR).2).1)).bind fun r3=>cond (!r3) (some (bq,(1:Int))) ((Ld N ((((List.getD Zd W7.toNat aR).2).2).1)).bind fun r4=>cond (!r4) (some (bq,(1:Int))) (br x0 x1 Zd x31 (W .i64 (W7+1))))) (none)) ((dR N x1).bind fun r6=>cond (!r6) (some (bq,(1:Int))) ((jQ N x0).bind fun r7=>oD x1 r7 x1 (List.length x1:Int) (0:Int)))
def bs.l4(N:Nat):Nat→bs.aU
 |0,_,_,_,_,_=>none
 |n+1,x0,x1,Zd,x31,W7=>bs.cj N (bs.lH N N) (bs.l4 N n) x0 x1 Zd x31 W7
def bs.b(N:Nat)(cT:bs.aU)(a0:ah)(a1:ah):Option (ah×(Int)):=
 (jH N a0).bind fun r1=>cond (!r1) (some (bq,(1:Int))) (cond (aG 400 (List.length a1:Int)) (some (bq,(1:Int))) (cT a0 a1 a1 (List.length a1:Int) (0:Int)))
def bs(N:Nat)(a0:ah)(a1:ah):Option (ah×(Int)):=bs.b N (bs.l4 N N) a0 a1
def YM(N:Nat)(a0:ah):Option ah:=
 cond (fB 0 (List.length a0:Int) (List.length a0:Int) (List.length a0:Int)) (some (List.drop (0:Int).toNat (List.take (List.length a0:Int).toNat a0))) (none)
abbrev bt.O6:=cC→ah→pd→Int→cC→Int→Int→Option (ah×(Int))
abbrev bt.zN:=cC→ah→pd→Int→cC→Int→Int→Option (ah×(Int))
abbrev bt.zO:=cC→ah→cE→gY→ah→Int→Int→cC→Int→Int→Option (ah×(Int))
abbrev bt.BA:=cC→ah→ah→Int→Int→Option (ah×(Int))
abbrev bt.iQ:=cC→ah→cC→Int→Int→Option (ah×(Int))
abbrev bt.bg:=ah→cC→gY→cC→Int→Int→Option (ah×(Int))
def bt.H5(N:Nat)(jO:bt.iQ)(x1:cC)(aH:ah)(bn:pd)(bm:Int)(FX:cC)(Hz:Int)(DL:Int):Option (ah×(Int)):=
 cond (ay bm (List.length aH:Int)) ((gq N aH bm ([(bn.1,(bn.2.1,((0:Int),())))])).bind fun ss=>jO x1 ss FX Hz (W .i64 (DL+1))) (cond (aI bm (List.length aH)) ((Ie N bn.1 bn.2.1 (List.getD aH bm.toNat aR)).bind fun uX=>cond (!ay uX 0) ((gq N aH bm ([(bn.1,(bn.2.1,((0:Int),())))])).bind fun uY=>jO x1 uY FX Hz (W .i64 (DL+1))) (jO x1 aH FX Hz (W .i64 (DL+1)))) (none))
def bt.Mj(N:Nat)(jO:bt.iQ)(x1:cC)(aH:ah)(bn:pd)(bm:Int)(FX:cC)(Hz:Int)(DL:Int):Option (ah×(Int)):=bt.H5 N jO x1 aH bn bm FX Hz DL
def bt.It(N:Nat)(BY:bt.O6)(jO:bt.iQ)(Pg:bt.zN)(x1:cC)(aH:ah)(bn:pd)(bm:Int)(FX:cC)(Hz:Int)(DL:Int):Option (ah×(Int)):=
 cond (aG bm (List.length aH:Int)) (cond (aI bm (List.length aH)) ((Ie N bn.1 bn.2.1 (List.getD aH bm.toNat aR)).bind fun ma=>cond (aG 0 ma) (Pg x1 aH bn (W .i64 (bm+1)) FX Hz DL) (BY x1 aH bn bm FX Hz DL)) (none)) (BY x1 aH bn bm FX Hz DL)
def bt.Lr(N:Nat)(jO:bt.iQ):Nat→bt.zN
 |0,_,_,_,_,_,_,_=>none
 |n+1,x1,aH,bn,bm,FX,Hz,DL=>bt.It N (bt.Mj N jO) jO (bt.Lr N jO n) x1 aH bn bm FX Hz DL
def bt.Fe(N:Nat)(B1:bt.BA)(wQ:bt.zO)(x1:cC)(bU:ah)(cV:cE)(fU:gY)(uP:ah)(xy:Int)(s7:Int)(AQ:cC)(L1:Int)(zP:Int):Option (ah×(Int)):=
 cond (aG zP L1) (cond (aI zP (List.length AQ)) (cond (ay ((List.getD AQ zP.toNat ((0:Int),((0:Int),(ca,())))).1) cV.1) (cond (ay (((List.getD AQ zP.toNat ((0:Int),((0:Int),(ca,())))).2).1) cV.2.1) (cond (small (List.length fU+List.length ([(((List.getD AQ zP.toNat ((0:Int),((0:Int),(ca,())))).2).2).1]))) (wQ x1 bU cV (fU++([(((List.getD AQ zP.toNat ((0:Int),((0:Int),(ca,())))).2).2).1])) uP xy s7 AQ L1 (W .i64 (zP+1))) (none)) (wQ x1 bU cV fU uP xy s7 AQ L1 (W .i64 (zP+1)))) (wQ x1 bU cV fU uP xy s7 AQ L1 (W .i64 (zP+1)))) (none)) ((jn N fU).bind fun B0=>(CJ N B0.1).bind fun I3=>cond (!B0.2) (some (bq,(2:Int))) (cond (!I3.2) (some (bq,(2:Int))) (cond (!ay I3.1 0) (cond (small (List.length bU+List.length ([(cV.1,(cV.2.1,(I3.1,())))]))) (B1 x1 (bU++([(cV.1,(cV.2.1,(I3.1,())))])) uP xy (W .i64 (s7+1))) (none)) (B1 x1 bU uP xy (W .i64 (s7+1))))))
def bt.Is(N:Nat)(B1:bt.BA):Nat→bt.zO
 |0,_,_,_,_,_,_,_,_,_,_=>none
 |n+1,x1,bU,cV,fU,uP,xy,s7,AQ,L1,zP=>bt.Fe N B1 (bt.Is N B1 n) x1 bU cV fU uP xy s7 AQ L1 zP
def bt.Rn(N:Nat)(Ph:bt.zO)(B1:bt.BA)(x1:cC)(bU:ah)(uP:ah)(xy:Int)(s7:Int):Option (ah×(Int)):=
 cond (aG s7 xy) (cond (aI s7 (List.length uP)) ((Q4 N ((((List.getD uP s7.toNat aR).2).2).1)).bind fun zG=>Ph x1 bU (List.getD uP s7.toNat aR) ([zG]) uP xy s7 x1 (List.length x1:Int) (0:Int)) (none)) ((YM N bU).bind fun Pf=>some (Pf,(0:Int)))
def bt.Rm(N:Nat):Nat→bt.BA
 |0,_,_,_,_,_=>none
 |n+1,x1,bU,uP,xy,s7=>bt.Rn N (bt.Is N (bt.Rm N n) N) (bt.Rm N n) x1 bU uP xy s7
def bt.qH(N:Nat)(Pj:bt.zN)(aeR:bt.BA)(jO:bt.iQ)(x1:cC)(aH:ah)(FX:cC)(Hz:Int)(DL:Int):Option (ah×(Int)):=
 cond (aG DL Hz) (cond (aI DL (List.length FX)) (Pj x1 aH (List.getD FX DL.toNat ((0:Int),((0:Int),(ca,())))) (0:Int) FX Hz DL) (none)) (cond (dS 0 (List.length aH:Int)) (aeR x1 (List.replicate (0:Int).toNat aR) aH (List.length aH:Int) (0:Int)) (none))
def bt.rU(N:Nat):Nat→bt.iQ
 |0,_,_,_,_,_=>none
 |n+1,x1,aH,FX,Hz,DL=>bt.qH N (bt.Lr N (bt.rU N n) N) (bt.Rm N N) (bt.rU N n) x1 aH FX Hz DL
def bt.dp(N:Nat)(zI:bt.iQ)(bb:bt.bg)(x0:ah)(x1:cC)(x6:gY)(W8:cC)(x37:Int)(R8:Int):Option (ah×(Int)):=
 cond (aG R8 x37) (cond (aI R8 (List.length W8)) ((Ib N ((List.getD W8 R8.toNat ((0:Int),((0:Int),(ca,())))).1) (((List.getD W8 R8.toNat ((0:Int),((0:Int),(ca,())))).2).1)).bind fun r4=>cond (!r4) (some (bq,(1:Int))) (cond (small (List.length x6+List.length ([(((List.getD W8 R8.toNat ((0:Int),((0:Int),(ca,())))).2).2).1]))) (bb x0 x1 (x6++([(((List.getD W8 R8.toNat ((0:Int),((0:Int),(ca,())))).2).2).1])) W8 x37 (W .i64 (R8+1))) (none))) (none)) ((jn N x6).bind fun r7=>cond (!r7.2) (some (bq,(1:Int))) ((YI N r7.1).bind fun r8=>cond (!ay r8 0) (some (bq,(1:Int))) ((jQ N x0).bind fun r9=>zI x1 r9 x1 (List.length x1:Int) (0:Int))))
def bt.l5(N:Nat):Nat→bt.bg
 |0,_,_,_,_,_,_=>none
 |n+1,x0,x1,x6,W8,x37,R8=>bt.dp N (bt.rU N N) (bt.l5 N n) x0 x1 x6 W8 x37 R8
def bt.b(N:Nat)(dF:bt.bg)(a0:ah)(a1:cC):Option (ah×(Int)):=
 (vo N a0).bind fun r1=>cond (!r1) (some (bq,(1:Int))) (cond (aG 400 (List.length a1:Int)) (some (bq,(1:Int))) (cond (dS 0 (List.length a1:Int)) (dF a0 a1 (List.replicate (0:Int).toNat ca) a1 (List.length a1:Int) (0:Int)) (none)))
def bt(N:Nat)(a0:ah)(a1:cC):Option (ah×(Int)):=bt.b N (bt.l5 N N) a0 a1
def F65(N:Nat)(a0:ag)(a1:ah)(a2:cC):Option (ag×(Int)):=
 (Rs N a0).bind fun r1=>(bs N a0.2.2.2.1 a1).bind fun r2=>cond (!ay r2.2 0) (some ((bN,(cI,(bq,(bq,(c3,(de,())))))),r2.2)) ((bt N a0.2.2.1 a2).bind fun r3=>cond (!ay r3.2 0) (some ((bN,(cI,(bq,(bq,(c3,(de,())))))),r3.2)) (some ((r1.1,(r1.2.1,(r3.1,(r2.1,r1.2.2.2.2)))),(0:Int))))
abbrev xw.bg:=ae→ag→ag→ah→Int→Int→Option (ag×(Int))
def xw.dp(N:Nat)(bb:xw.bg)(x2:ae)(x3:ag)(x4:ag)(x6:ah)(cV:Int)(fU:Int):Option (ag×(Int)):=
 cond (aG fU cV) ((ln N x2 x3 fU).bind fun r3=>cond (!ay r3.2 0) (some ((bN,(cI,(bq,(bq,(c3,(de,())))))),r3.2)) (cond (small (List.length x6+List.length r3.1)) (bb x2 x3 x4 (x6++r3.1) cV (W .i64 (fU+1))) (none))) ((F65 N x3 x6 ([]:List ((Int)×((Int)×(((Int)×((Int)×(Unit)))×(Unit)))))).bind fun r6=>some (r6.1,r6.2))
def xw.l5(N:Nat):Nat→xw.bg
 |0,_,_,_,_,_,_=>none
 |n+1,x2,x3,x4,x6,cV,fU=>xw.dp N (xw.l5 N n) x2 x3 x4 x6 cV fU
def xw.b(N:Nat)(dF:xw.bg)(a0:ae)(a1:ag):Option (ag×(Int)):=
 (ic N a0 a1).bind fun r1=>cond (!r1) (some ((bN,(cI,(bq,(bq,(c3,(de,())))))),(1:Int))) (dF a0 a1 (bN,(cI,(bq,(bq,(c3,(de,())))))) ([]) (List.length a0.1:Int) (0:Int))
def xw(N:Nat)(a0:ae)(a1:ag):Option (ag×(Int)):=xw.b N (xw.l5 N N) a0 a1
abbrev uW.aU:=ah→ah→Int→Option (Bool)
def uW.cj(N:Nat)(br:uW.aU)(x0:ah)(x1:ah)(x5:Int):Option (Bool):=
 cond (aG x5 (List.length x0:Int)) (cond (aI x5 (List.length x0)) (cond (aI x5 (List.length x1)) (cond (!(kV (.pair (.int .i64) (.pair (.int .i64) (.pair (.int .i64) .unit))) (List.getD x0 x5.toNat aR) (List.getD x1 x5.toNat aR))) (some false) (br x0 x1 (W .i64 (x5+1)))) (none)) (none)) (some true)
def uW.l4(N:Nat):Nat→uW.aU
 |0,_,_,_=>none
 |n+1,x0,x1,x5=>uW.cj N (uW.l4 N n) x0 x1 x5
def uW.b(N:Nat)(cT:uW.aU)(a0:ah)(a1:ah):Option (Bool):=
 cond (!ay (List.length a0:Int) (List.length a1:Int)) (some false) (cT a0 a1 (0:Int))
def uW(N:Nat)(a0:ah)(a1:ah):Option (Bool):=uW.b N (uW.l4 N N) a0 a1
abbrev uV.aU:=ah→ah→Int→Option (Bool)
def uV.cj(N:Nat)(br:uV.aU)(x0:ah)(x1:ah)(x5:Int):Option (Bool):=
 cond (aG x5 (List.length x0:Int)) (cond (aI x5 (List.length x0)) (cond (aI x5 (List.length x1)) (cond (!(kV (.pair (.int .i64) (.pair (.int .i64) (.pair (.int .i64) .unit))) (List.getD x0 x5.toNat aR) (List.getD x1 x5.toNat aR))) (some false) (br x0 x1 (W .i64 (x5+1)))) (none)) (none)) (some true)
def uV.l4(N:Nat):Nat→uV.aU
 |0,_,_,_=>none
 |n+1,x0,x1,x5=>uV.cj N (uV.l4 N n) x0 x1 x5
def uV.b(N:Nat)(cT:uV.aU)(a0:ah)(a1:ah):Option (Bool):=
 cond (!ay (List.length a0:Int) (List.length a1:Int)) (some false) (cT a0 a1 (0:Int))
def uV(N:Nat)(a0:ah)(a1:ah):Option (Bool):=uV.b N (uV.l4 N N) a0 a1
def F26(N:Nat):Option (Bool):=
 (F86 N).bind fun r1=>(ln N r1.1 r1.2 (0:Int)).bind fun r2=>(xw N r1.1 r1.2).bind fun r3=>(ln N r1.1 r1.2 (1:Int)).bind fun r4=>cond (ay r2.2 0) ((uW N r2.1 ([((0:Int),((0:Int),((-3:Int),()))),((1:Int),((0:Int),((2:Int),()))),((2:Int),((0:Int),((1:Int),())))])).bind fun r5=>cond (r5) (cond (ay r3.2 0) ((uV N r3.1.2.2.2.1 ([((1:Int),((0:Int),((-2:Int),()))),((2:Int),((0:Int),((-1:Int),()))),((3:Int),((0:Int),((3:Int),())))])).bind fun r6=>cond (r6) (some (ay r4.2 3)) (some false)) (some false)) (some false)) (some false)
def F13(N:Nat)(a0:List (Int)):Option aM:=
 some (a0,((0:Int),()))
def F42(N:Nat)(a0:aM):Option ((Int)×aM):=
 cond (aG a0.2.1 (List.length a0.1:Int)) (cond (aI a0.2.1 (List.length a0.1)) (some (List.getD a0.1 a0.2.1.toNat (0:Int),(a0.1,((W .i64 (a0.2.1+1)),a0.2.2)))) (none)) (some ((0:Int),(a0.1,((W .i64 (a0.2.1+1)),a0.2.2))))
def nZ(N:Nat)(a0:aM)(a1:Int):Option ((Int)×aM):=
 (F42 N a0).bind fun r1=>let v2:Int:=W .u64 a1;cond (ay v2 0) (none) (some ((W .i64 (rem r1.1 v2)),r1.2))
def PW(N:Nat)(a0:aM)(a1:Int):Option ((Bool)×aM):=
 (nZ N a0 a1).bind fun r1=>some (ay r1.1 (W .i64 (a1-1)),r1.2)
def Hv(N:Nat)(a0:aM):Option ((Int)×aM):=
 (F42 N a0).bind fun r1=>cond (ay 8 0) (none) (let v2:Int:=rem r1.1 8;cond (ay v2 0) (cond (aG 1 0) (none) (some ((W .i64 (shr .u64 r1.1 1)),r1.2))) (cond (ay v2 1) (cond (aG 3 0) (none) (cond (ay 1000000000000 0) (none) (some ((W .i64 (rem (shr .u64 r1.1 3) 1000000000000)),r1.2)))) (cond (ay v2 2) (cond (aG 3 0) (none) (cond (ay 2 0) (none) (some ((W .i64 (rem (shr .u64 r1.1 3) 2)),r1.2)))) (cond (aG 3 0) (none) (cond (ay 5000 0) (none) (some ((W .i64 (rem (shr .u64 r1.1 3) 5000)),r1.2)))))))
abbrev py.I2:=aM→ae→ae→aE→Int→bS→Option (ae×aM)
abbrev py.cf:=aM→ae→ae→aE→Int→Option (ae×aM)
def py.IC(N:Nat)(bQ:py.cf)(x0:aM)(x2:ae)(x3:ae)(L4:aE)(x4:Int)(x5:bS):Option (ae×aM):=
 (PW N x0 (12:Int)).bind fun n8=>cond (n8.1) ((Hv N n8.2).bind fun ss=>cond (ay 1000000001 0) (none) (let Pk:Int:=rem ss.1 1000000001;(Hv N ss.2).bind fun uX=>cond (ay 1000000001 0) (none) (let v18:Int:=rem uX.1 1000000001;cond (small (List.length L4+List.length ([(x5.1,(x5.2.1,(Pk,(v18,x5.2.2.2.2))))]))) (bQ uX.2 x2 (cI,x3.2) (L4++([(x5.1,(x5.2.1,(Pk,(v18,x5.2.2.2.2))))])) (W .i64 (x4-1))) (none)))) (cond (small (List.length L4+List.length ([x5]))) (bQ n8.2 x2 (cI,x3.2) (L4++([x5])) (W .i64 (x4-1))) (none))
def py.j8(N:Nat)(bQ:py.cf)(x0:aM)(x2:ae)(x3:ae)(L4:aE)(x4:Int)(x5:bS):Option (ae×aM):=py.IC N bQ x0 x2 x3 L4 x4 x5
def py.gZ(N:Nat)(zK:py.I2)(bQ:py.cf)(x0:aM)(x2:ae)(x3:ae)(L4:aE)(x4:Int):Option (ae×aM):=
 cond (aG 0 x4) ((nZ N x0 (3:Int)).bind fun r4=>(nZ N r4.2 (300:Int)).bind fun r5=>(nZ N r5.2 (12:Int)).bind fun r7=>(nZ N r7.2 (6:Int)).bind fun r8=>(PW N r8.2 (12:Int)).bind fun r9=>cond (r9.1) ((Hv N r9.2).bind fun jF=>cond (ay 1000000000000 0) (none) (zK jF.2 x2 x3 L4 x4 (r4.1,((W .i64 ((1:Int)+(rem jF.1 1000000000000))),(r7.1,(r8.1,())))))) (zK r9.2 x2 x3 L4 x4 (r4.1,((W .i64 ((1:Int)+r5.1)),(r7.1,(r8.1,())))))) ((nZ N x0 (300:Int)).bind fun zG=>(nZ N zG.2 (5:Int)).bind fun DM=>(nZ N DM.2 (3:Int)).bind fun DN=>(nZ N DN.2 (3:Int)).bind fun wR=>(nZ N wR.2 (20:Int)).bind fun L7=>let v28:Int:=W .i64 ((1:Int)+L7.1);(nZ N L7.2 (100:Int)).bind fun B0=>(PW N B0.2 (15:Int)).bind fun I3=>cond (I3.1) ((Hv N I3.2).bind fun Kp=>some ((L4,(Kp.1,(DM.1,(DN.1,(wR.1,(v28,(B0.1,x3.2.2.2.2.2.2.2))))))),Kp.2)) (some ((L4,(zG.1,(DM.1,(DN.1,(wR.1,(v28,(B0.1,x3.2.2.2.2.2.2.2))))))),I3.2)))
def py.l3(N:Nat):Nat→py.cf
 |0,_,_,_,_,_=>none
 |n+1,x0,x2,x3,L4,x4=>py.gZ N (py.j8 N (py.l3 N n)) (py.l3 N n) x0 x2 x3 L4 x4
def py.b(N:Nat)(iI:py.cf)(a0:aM):Option (ae×aM):=
 (nZ N a0 (4:Int)).bind fun r1=>iI r1.2 (cI,eG) (cI,eG) cI (W .i64 ((1:Int)+r1.1))
def py(N:Nat)(a0:aM):Option (ae×aM):=py.b N (py.l3 N N) a0
abbrev dv.dP:=aM→fT→Int→Option (fT×aM)
abbrev dv.kd:=aM→fT→Int→Option (fT×aM)
abbrev dv.cf:=aM→fT→Int→Option (fT×aM)
def dv.j2(N:Nat)(fi:dv.dP)(x0:aM)(x5:fT)(x8:Int):Option (fT×aM):=
 cond (bR x8 7) ((nZ N x0 (3000:Int)).bind fun ss=>let Pk:Int:=W .i64 ((200:Int)+ss.1);(nZ N ss.2 (200:Int)).bind fun uX=>let v18:Int:=W .i64 ((20:Int)+uX.1);cond (small (List.length x5+List.length ([((3:Int),((0:Int),(x8,((0:Int),((0:Int),((0:Int),(Pk,((0:Int),())))))))),((6:Int),((0:Int),(x8,((0:Int),((0:Int),((0:Int),(v18,((0:Int),()))))))))]))) (fi uX.2 (x5++([((3:Int),((0:Int),(x8,((0:Int),((0:Int),((0:Int),(Pk,((0:Int),())))))))),((6:Int),((0:Int),(x8,((0:Int),((0:Int),((0:Int),(v18,((0:Int),()))))))))])) (W .i64 (x8+1))) (none)) (some (x5,x0))
def dv.lH(N:Nat):Nat→dv.dP
 |0,_,_,_=>none
 |n+1,x0,x5,x8=>dv.j2 N (dv.lH N n) x0 x5 x8
def dv.vl(N:Nat)(oD:dv.dP)(oE:dv.kd)(x0:aM)(x5:fT)(x7:Int):Option (fT×aM):=
 cond (bR x7 7) ((nZ N x0 (2:Int)).bind fun jF=>let v11:Int:=W .i64 ((1:Int)+jF.1);cond (small (List.length x5+List.length ([((2:Int),(v11,(x7,((0:Int),((2:Int),aR)))))]))) (oE jF.2 (x5++([((2:Int),(v11,(x7,((0:Int),((2:Int),aR)))))])) (W .i64 (x7+1))) (none)) (oD x0 x5 (1:Int))
def dv.l9(N:Nat):Nat→dv.kd
 |0,_,_,_=>none
 |n+1,x0,x5,x7=>dv.vl N (dv.lH N N) (dv.l9 N n) x0 x5 x7
def dv.gZ(N:Nat)(vJ:dv.kd)(bQ:dv.cf)(x0:aM)(x5:fT)(x6:Int):Option (fT×aM):=
 cond (bR x6 4) (cond (small (List.length x5+List.length ([((1:Int),(x6,eG)),((2:Int),(x6,(x6,((0:Int),((1:Int),aR)))))]))) (let v2:List ((Int)×((Int)×((Int)×((Int)×((Int)×((Int)×((Int)×((Int)×(Unit))))))))):=x5++([((1:Int),(x6,eG)),((2:Int),(x6,(x6,((0:Int),((1:Int),aR)))))]);(PW N x0 (5:Int)).bind fun r3=>cond (!r3.1) ((nZ N r3.2 (400:Int)).bind fun r4=>let v5:Int:=W .i64 ((1:Int)+r4.1);cond (small (List.length v2+List.length ([((5:Int),(x6,((0:Int),((0:Int),((0:Int),((0:Int),(v5,((0:Int),()))))))))]))) (bQ r4.2 (v2++([((5:Int),(x6,((0:Int),((0:Int),((0:Int),((0:Int),(v5,((0:Int),()))))))))])) (W .i64 (x6+1))) (none)) (bQ r3.2 v2 (W .i64 (x6+1)))) (none)) (vJ x0 x5 (5:Int))
def dv.l3(N:Nat):Nat→dv.cf
 |0,_,_,_=>none
 |n+1,x0,x5,x6=>dv.gZ N (dv.l9 N N) (dv.l3 N n) x0 x5 x6
def dv.b(N:Nat)(iI:dv.cf)(a0:aM)(a1:ae):Option (fT×aM):=
 iI a0 ([]) (1:Int)
def dv(N:Nat)(a0:aM)(a1:ae):Option (fT×aM):=dv.b N (dv.l3 N N) a0 a1
def LF(N:Nat)(a0:aM)(a1:ae)(a2:Int):Option (gm×aM):=
 cond (aI a2 (List.length a1.1)) ((nZ N a0 (61:Int)).bind fun r1=>(PW N r1.2 (20:Int)).bind fun r6=>cond (r6.1) ((Hv N r6.2).bind fun r7=>cond (ay 1000000000000 0) (none) (some (((9:Int),((0:Int),((0:Int),(a2,((0:Int),((0:Int),((0:Int),((W .i64 ((1:Int)+(rem r7.1 1000000000000))),())))))))),r7.2))) (some (((9:Int),((0:Int),((0:Int),(a2,((0:Int),((0:Int),((0:Int),((mx 1 (mn 1000000000000 (W .i64 ((W .i64 ((((List.getD a1.1 a2.toNat aS).2).1)+r1.1))-30)))),())))))))),r6.2))) (none)
def OB(N:Nat)(a0:aM)(a1:ae):Option (gm×aM):=
 (nZ N a0 (List.length a1.1:Int)).bind fun r1=>(nZ N r1.2 (7:Int)).bind fun r2=>let v3:Int:=W .i64 ((1:Int)+r2.1);(nZ N r2.2 (2:Int)).bind fun r4=>let v5:Int:=W .i64 ((1:Int)+r4.1);(nZ N r4.2 (30:Int)).bind fun r6=>cond (aI r1.1 (List.length a1.1)) ((nZ N r6.2 (21:Int)).bind fun r8=>(PW N r8.2 (30:Int)).bind fun nu=>cond (nu.1) ((Hv N nu.2).bind fun n8=>cond (ay 1000000000 0) (none) ((Hv N n8.2).bind fun uX=>cond (ay 1000000000000 0) (none) (some (((7:Int),((0:Int),(v3,(r1.1,(v5,((0:Int),((W .i64 ((1:Int)+(rem n8.1 1000000000))),((W .i64 ((1:Int)+(rem uX.1 1000000000000))),())))))))),uX.2)))) (some (((7:Int),((0:Int),(v3,(r1.1,(v5,((0:Int),((W .i64 ((1:Int)+r6.1)),((mx 1 (mn 1000000000000 (W .i64 ((W .i64 ((((List.getD a1.1 r1.1.toNat aS).2).1)+r8.1))-10)))),())))))))),nu.2))) (none)
def OC(N:Nat)(a0:aM)(a1:ae):Option (gm×aM):=
 (nZ N a0 (4:Int)).bind fun r1=>let v2:Int:=W .i64 ((1:Int)+r1.1);(nZ N r1.2 (7:Int)).bind fun r3=>let v4:Int:=W .i64 ((1:Int)+r3.1);(nZ N r3.2 (List.length a1.1:Int)).bind fun r5=>(nZ N r5.2 (36:Int)).bind fun r6=>let v7:Int:=W .i64 ((1:Int)+r6.1);cond (ay v7 1) (some ((v7,(v2,eG)),r6.2)) (cond (ay v7 11) (some ((v7,(v2,eG)),r6.2)) (cond (ay v7 12) (some ((v7,(v2,eG)),r6.2)) (cond (ay v7 13) (some ((v7,(v2,eG)),r6.2)) (cond (ay v7 2) ((nZ N r6.2 (2:Int)).bind fun r8=>some ((v7,(v2,(v4,((0:Int),((W .i64 ((1:Int)+r8.1)),aR))))),r8.2)) (cond (ay v7 3) ((Hv N r6.2).bind fun jF=>some ((v7,((0:Int),(v4,((0:Int),((0:Int),((0:Int),((mx jF.1 1),((0:Int),())))))))),jF.2)) (cond (ay v7 4) ((Hv N r6.2).bind fun ma=>some ((v7,((0:Int),(v4,((0:Int),((0:Int),((0:Int),((mx ma.1 1),((0:Int),())))))))),ma.2)) (cond (ay v7 5) ((Hv N r6.2).bind fun n8=>some ((v7,(v2,((0:Int),((0:Int),((0:Int),((0:Int),((mx n8.1 1),((0:Int),())))))))),n8.2)) (cond (ay v7 22) ((Hv N r6.2).bind fun vI=>some ((v7,(v2,((0:Int),((0:Int),((0:Int),((0:Int),((mx vI.1 1),((0:Int),())))))))),vI.2)) (cond (ay v7 6) ((Hv N r6.2).bind fun uY=>cond (ay 1000000000001 0) (none) (some ((v7,((0:Int),(v4,((0:Int),((0:Int),((0:Int),((rem uY.1 1000000000001),((0:Int),())))))))),uY.2))) (cond (ay v7 8) ((nZ N r6.2 (40:Int)).bind fun FY=>some ((v7,((0:Int),(v4,((0:Int),((0:Int),((W .i64 ((1:Int)+FY.1)),ca)))))),FY.2)) (cond (ay v7 9) ((LF N r6.2 a1 r5.1).bind fun HA=>some (HA.1,HA.2)) (cond (ay v7 10) ((nZ N r6.2 (3:Int)).bind fun zG=>some ((v7,((0:Int),((0:Int),((0:Int),((0:Int),((0:Int),((W .i64 ((1:Int)+zG.1)),((0:Int),())))))))),zG.2)) (cond (ay v7 14) (some ((v7,(v2,(v4,jR))),r6.2)) (cond (ay v7 15) (some ((v7,Wt),r6.2)) (cond (ay v7 16) (some ((v7,Wt),r6.2)) (cond (ay v7 18) (some ((v7,Wt),r6.2)) (cond (ay v7 20) (some ((v7,Wt),r6.2)) (cond (ay v7 21) (some ((v7,Wt),r6.2)) (cond (ay v7 17) ((nZ N r6.2 (60:Int)).bind fun DN=>(nZ N DN.2 (20:Int)).bind fun L7=>cond (aI r5.1 (List.length a1.1)) (some ((v7,((0:Int),(v4,((0:Int),((0:Int),((W .i64 ((1:Int)+DN.1)),((W .i64 ((1:Int)+L7.1)),(((List.getD a1.1 r5.1.toNat aS).2).1,())))))))),L7.2)) (none)) (cond (ay v7 19) ((nZ N r6.2 (60:Int)).bind fun B0=>(nZ N B0.2 (80:Int)).bind fun Kp=>some ((v7,(v2,((0:Int),((0:Int),((0:Int),((W .i64 ((1:Int)+B0.1)),((0:Int),((W .i64 (Kp.1-60)),())))))))),Kp.2)) ((OB N r6.2 a1).bind fun r33=>some (r33.1,r33.2))))))))))))))))))))))
abbrev ya.cf:=aM→ae→fT→Int→Option (fT×aM)
def ya.gZ(N:Nat)(bQ:ya.cf)(x0:aM)(x4:ae)(x7:fT)(x8:Int):Option (fT×aM):=
 cond (aG 0 x8) ((nZ N x0 (8:Int)).bind fun r5=>cond (ay r5.1 0) ((OC N r5.2 x4).bind fun r6=>cond (small (List.length x7+List.length ([r6.1]))) (bQ r6.2 x4 (x7++([r6.1])) (W .i64 (x8-1))) (none)) (cond (ay r5.1 1) ((nZ N r5.2 (List.length x4.1:Int)).bind fun r9=>(LF N r9.2 x4 r9.1).bind fun jF=>cond (small (List.length x7+List.length ([jF.1]))) (bQ jF.2 x4 (x7++([jF.1])) (W .i64 (x8-1))) (none)) ((OB N r5.2 x4).bind fun nu=>cond (small (List.length x7+List.length ([nu.1]))) (bQ nu.2 x4 (x7++([nu.1])) (W .i64 (x8-1))) (none)))) (some (x7,x0))
def ya.l3(N:Nat):Nat→ya.cf
 |0,_,_,_,_=>none
 |n+1,x0,x4,x7,x8=>ya.gZ N (ya.l3 N n) x0 x4 x7 x8
def ya.b(N:Nat)(iI:ya.cf)(a0:aM)(a1:ae)(a2:Int):Option (fT×aM):=
 (dv N a0 a1).bind fun r1=>(nZ N r1.2 (W .i64 (a2+1))).bind fun r3=>iI r3.2 a1 r1.1 r3.1
def ya(N:Nat)(a0:aM)(a1:ae)(a2:Int):Option (fT×aM):=ya.b N (ya.l3 N N) a0 a1 a2
abbrev xv.cf:=aM→ae→fT→Int→Option (fT×aM)
def xv.gZ(N:Nat)(bQ:xv.cf)(x0:aM)(x3:ae)(x5:fT)(x6:Int):Option (fT×aM):=
 cond (aG 0 x6) ((PW N x0 (2:Int)).bind fun r3=>cond (r3.1) ((nZ N r3.2 (List.length x3.1:Int)).bind fun r4=>(LF N r4.2 x3 r4.1).bind fun r5=>cond (small (List.length x5+List.length ([r5.1]))) (bQ r5.2 x3 (x5++([r5.1])) (W .i64 (x6-1))) (none)) ((OC N r3.2 x3).bind fun r8=>cond (small (List.length x5+List.length ([r8.1]))) (bQ r8.2 x3 (x5++([r8.1])) (W .i64 (x6-1))) (none))) (some (x5,x0))
def xv.l3(N:Nat):Nat→xv.cf
 |0,_,_,_,_=>none
 |n+1,x0,x3,x5,x6=>xv.gZ N (xv.l3 N n) x0 x3 x5 x6
def xv.b(N:Nat)(iI:xv.cf)(a0:aM)(a1:ae):Option (fT×aM):=
 (nZ N a0 (3:Int)).bind fun r1=>iI r1.2 a1 ([]) r1.1
def xv(N:Nat)(a0:aM)(a1:ae):Option (fT×aM):=xv.b N (xv.l3 N N) a0 a1
def AB(N:Nat)(a0:Int)(a1:Int)(a2:Int):Option (Bool):=
 cond (bR a1 a0) (some (bR a0 a2)) (some false)
abbrev iC.aU:=ae→Int→Option (Bool)
def iC.cj(N:Nat)(br:iC.aU)(x1:ae)(x3:Int):Option (Bool):=
 cond (aG x3 (List.length x1.1:Int)) (cond (aI x3 (List.length x1.1)) ((AB N ((List.getD x1.1 x3.toNat aS).1) (0:Int) (3:Int)).bind fun r2=>cond (!r2) (some false) ((AB N (((List.getD x1.1 x3.toNat aS).2).1) (1:Int) (1000000000000:Int)).bind fun r3=>cond (!r3) (some false) ((AB N ((((List.getD x1.1 x3.toNat aS).2).2).1) (0:Int) (1000000000:Int)).bind fun r4=>cond (!r4) (some false) ((AB N (((((List.getD x1.1 x3.toNat aS).2).2).2).1) (0:Int) (1000000000:Int)).bind fun r5=>cond (!r5) (some false) (br x1 (W .i64 (x3+1))))))) (none)) (cond (bR 0 x1.2.1) ((AB N x1.2.2.1 (0:Int) (4:Int)).bind fun r7=>cond (r7) ((AB N x1.2.2.2.1 (0:Int) (1000000:Int)).bind fun r8=>cond (r8) ((AB N x1.2.2.2.2.1 (0:Int) (1000000:Int)).bind fun r9=>cond (r9) ((AB N x1.2.2.2.2.2.1 (1:Int) (4611686018427387904:Int)).bind fun jF=>cond (jF) (some (bR 0 x1.2.2.2.2.2.2.1)) (some false)) (some false)) (some false)) (some false)) (some false))
def iC.l4(N:Nat):Nat→iC.aU
 |0,_,_=>none
 |n+1,x1,x3=>iC.cj N (iC.l4 N n) x1 x3
def iC.b(N:Nat)(cT:iC.aU)(a0:ae):Option (Bool):=
 cond (aG (List.length a0.1:Int) 1) (some false) (cond (aG 6 (List.length a0.1:Int)) (some false) (cT a0 (0:Int)))
def iC(N:Nat)(a0:ae):Option (Bool):=iC.b N (iC.l4 N N) a0
abbrev gL.cJ:=ae→ag→ag→(List (Int))→Int→Option (ag×(Int))
abbrev gL.Pl:=ae→ag→ag→(List (Int))→Option (ag×(Int))
def gL.lC(N:Nat)(cz:gL.cJ)(x1:ae)(x2:ag)(x4:ag)(R9:List (Int))(x5:Int):Option (ag×(Int)):=
 cond (aG x5 (List.length x1.1:Int)) (cond (aI x5 (List.length x1.1)) (cond (small (List.length R9+List.length ([((List.getD x1.1 x5.toNat aS).2).1]))) (cz x1 x2 (x4.1,(x4.2.1,(x4.2.2.1,(x4.2.2.2.1,(c3,x4.2.2.2.2.2))))) (R9++([((List.getD x1.1 x5.toNat aS).2).1])) (W .i64 (x5+1))) (none)) (none)) (some ((x4.1,(x4.2.1,(x4.2.2.1,(x4.2.2.2.1,(R9,x4.2.2.2.2.2))))),(0:Int)))
def gL.l7(N:Nat):Nat→gL.cJ
 |0,_,_,_,_,_=>none
 |n+1,x1,x2,x4,R9,x5=>gL.lC N (gL.l7 N n) x1 x2 x4 R9 x5
def gL.Mk(N:Nat)(nc:gL.cJ)(x1:ae)(x2:ag)(x4:ag)(R9:List (Int)):Option (ag×(Int)):=
 nc x1 x2 x4 R9 (0:Int)
def gL.j6(N:Nat)(x1:ae)(x2:ag)(x4:ag)(R9:List (Int)):Option (ag×(Int)):=gL.Mk N (gL.l7 N N) x1 x2 x4 R9
def gL.b(N:Nat)(Dq:gL.Pl)(a0:ae):Option (ag×(Int)):=
 (iC N a0).bind fun r1=>cond (!r1) (some ((bN,(cI,(bq,(bq,(c3,(de,())))))),(1:Int))) (cond (!ay a0.2.1 0) (Dq a0 (bN,(cI,(bq,(bq,(c3,(de,())))))) (bN,(cI,([((1:Int),((0:Int),((W .i64 (0-a0.2.1)),()))),((3:Int),((0:Int),(a0.2.1,())))],(bq,(c3,(de,())))))) c3) (Dq a0 (bN,(cI,(bq,(bq,(c3,(de,())))))) (bN,(cI,(bq,(bq,(c3,(de,())))))) c3))
def gL(N:Nat)(a0:ae):Option (ag×(Int)):=gL.b N (gL.j6 N) a0
def aeT(N:Nat)(a0:ae):Option (aT×(Int)):=
 (gL N a0).bind fun r1=>cond (!ay r1.2 0) (some (((0:Int),((0:Int),((bN,(cI,(bq,(bq,(c3,(de,())))))),(((0:Int),((0:Int),((0:Int),((0:Int),(cI,(([]:List ((Int)×((List ((Int)×((Int)×(Unit))))×((Int)×((Int)×((Int)×((Int)×(Unit)))))))),(cI,(c3,(bN,(bN,())))))))))),(((0:Int),((0:Int),(xG,((0:Int),())))),()))))),r1.2)) (some (((0:Int),((1:Int),(r1.1,(((0:Int),((0:Int),((0:Int),((0:Int),(cI,(([]:List ((Int)×((List ((Int)×((Int)×(Unit))))×((Int)×((Int)×((Int)×((Int)×(Unit)))))))),(cI,(c3,(bN,(bN,())))))))))),(((0:Int),((0:Int),(xG,((0:Int),())))),()))))),(0:Int)))
def Y0(N:Nat)(a0:Int):Option (Bool):=
 cond (bR 1 a0) (some (bR a0 22)) (some false)
def RL(N:Nat)(a0:Int):Option (ByteArray):=
 cond (ay a0 1) (some (strOf [77])) (cond (ay a0 11) (some (strOf [77])) (cond (ay a0 12) (some (strOf [77])) (cond (ay a0 13) (some (strOf [77])) (cond (ay a0 2) (some (strOf [77,65,83])) (cond (ay a0 3) (some (strOf [65,81])) (cond (ay a0 4) (some (strOf [65,81])) (cond (ay a0 6) (some (strOf [65,81])) (cond (ay a0 5) (some (strOf [77,81])) (cond (ay a0 22) (some (strOf [77,81])) (cond (ay a0 7) (some (strOf [65,73,83,81,80])) (cond (ay a0 8) (some (strOf [65,68])) (cond (ay a0 9) (some (strOf [73,80])) (cond (ay a0 10) (some (strOf [81])) (cond (ay a0 14) (some (strOf [77,65])) (cond (ay a0 17) (some (strOf [65,68,81,80])) (cond (ay a0 19) (some (strOf [77,68,80])) (some (strOf []))))))))))))))))))
def YY(N:Nat)(a0:Int):Option ((Int)×(Int)):=
 cond (ay a0 6) (some ((0:Int),(1000000000000:Int))) (cond (ay a0 7) (some ((1:Int),(1000000000:Int))) (cond (ay a0 17) (some ((1:Int),(1000000000:Int))) (cond (ay a0 10) (some ((1:Int),(1000000:Int))) (some ((1:Int),(9223372036854775807:Int))))))
def YZ(N:Nat)(a0:Int):Option ((Int)×(Int)):=
 cond (ay a0 19) (some ((-1152921504606846976:Int),(1152921504606846976:Int))) (some ((1:Int),(1000000000000:Int)))
def RM(N:Nat)(a0:Int)(a1:Int):Option ((Int)×(Int)):=
 cond (ay a1 77) (some ((1:Int),(12:Int))) (cond (ay a1 65) (some ((1:Int),(24:Int))) (cond (ay a1 73) (some ((0:Int),(5:Int))) (cond (ay a1 83) (some ((1:Int),(2:Int))) (cond (ay a1 68) (some ((1:Int),(1099511627776:Int))) (cond (ay a1 81) ((YY N a0).bind fun r1=>some (r1.1,r1.2)) ((YZ N a0).bind fun r2=>some (r2.1,r2.2)))))))
def RN(N:Nat)(a0:gm)(a1:Int):Option (Int):=
 cond (ay a1 77) (some a0.2.1) (cond (ay a1 65) (some a0.2.2.1) (cond (ay a1 73) (some a0.2.2.2.1) (cond (ay a1 83) (some a0.2.2.2.2.1) (cond (ay a1 68) (some a0.2.2.2.2.2.1) (cond (ay a1 81) (some a0.2.2.2.2.2.2.1) (some a0.2.2.2.2.2.2.2.1))))))
def RO(N:Nat)(a0:gm)(a1:Int)(a2:Int):Option gm:=
 cond (ay a1 77) (some (a0.1,(a2,a0.2.2))) (cond (ay a1 65) (some (a0.1,(a0.2.1,(a2,a0.2.2.2)))) (cond (ay a1 73) (some (a0.1,(a0.2.1,(a0.2.2.1,(a2,a0.2.2.2.2))))) (cond (ay a1 83) (some (a0.1,(a0.2.1,(a0.2.2.1,(a0.2.2.2.1,(a2,a0.2.2.2.2.2)))))) (cond (ay a1 68) (some (a0.1,(a0.2.1,(a0.2.2.1,(a0.2.2.2.1,(a0.2.2.2.2.1,(a2,a0.2.2.2.2.2.2))))))) (cond (ay a1 81) (some (a0.1,(a0.2.1,(a0.2.2.1,(a0.2.2.2.1,(a0.2.2.2.2.1,(a0.2.2.2.2.2.1,(a2,a0.2.2.2.2.2.2.2)))))))) (some (a0.1,(a0.2.1,(a0.2.2.1,(a0.2.2.2.1,(a0.2.2.2.2.1,(a0.2.2.2.2.2.1,(a0.2.2.2.2.2.2.1,(a2,a0.2.2.2.2.2.2.2.2))))))))))))))
abbrev mP.fa:=gm→ByteArray→gm→Int→Option (Bool)
def mP.oI(N:Nat)(fL:mP.fa)(x1:gm)(x3:ByteArray)(x4:gm)(x5:Int):Option (Bool):=
 cond (aG x5 (ByteArray.size x3:Int)) (cond (aI x5 (ByteArray.size x3)) ((RM N x1.1 ((x3.data.getD x5.toNat 0).toNat:Int)).bind fun r4=>cond (aI x5 (ByteArray.size x3)) ((RN N x1 ((x3.data.getD x5.toNat 0).toNat:Int)).bind fun r5=>cond (aG r5 r4.1) (some false) (cond (aG r4.2 r5) (some false) (cond (aI x5 (ByteArray.size x3)) ((RO N x4 ((x3.data.getD x5.toNat 0).toNat:Int) r5).bind fun r6=>fL x1 x3 r6 (W .i64 (x5+1))) (none)))) (none)) (none)) (some (kV (.pair (.int .i64) (.pair (.int .i64) (.pair (.int .i64) (.pair (.int .i64) (.pair (.int .i64) (.pair (.int .i64) (.pair (.int .i64) (.pair (.int .i64) .unit)))))))) x4 x1))
def mP.l6(N:Nat):Nat→mP.fa
 |0,_,_,_,_=>none
 |n+1,x1,x3,x4,x5=>mP.oI N (mP.l6 N n) x1 x3 x4 x5
def mP.b(N:Nat)(pC:mP.fa)(a0:gm):Option (Bool):=
 (Y0 N a0.1).bind fun r1=>cond (!r1) (some false) ((RL N a0.1).bind fun r2=>pC a0 r2 (a0.1,Wt) (0:Int))
def mP(N:Nat)(a0:gm):Option (Bool):=mP.b N (mP.l6 N N) a0
abbrev jG.bT:=av→Int→Option (Bool)
def jG.ec(N:Nat)(cX:jG.bT)(x0:av)(x3:Int):Option (Bool):=
 cond (aG x3 (List.length x0:Int)) (cond (aI x3 (List.length x0)) (cond (aG ((List.getD x0 x3.toNat ca).1) (1:Int)) (some false) (cond (aI x3 (List.length x0)) (cond (aG 12 ((List.getD x0 x3.toNat ca).1)) (some false) (cond (aI x3 (List.length x0)) (cond (aG (((List.getD x0 x3.toNat ca).2).1) (1:Int)) (some false) (cond (aI x3 (List.length x0)) (cond (aG 4 (((List.getD x0 x3.toNat ca).2).1)) (some false) (cond (aG 0 x3) (cond (aI x3 (List.length x0)) (let v2:Int:=W .i64 (x3-1);cond (aI v2 (List.length x0)) (cond (bR ((List.getD x0 x3.toNat ca).1) ((List.getD x0 v2.toNat ca).1)) (some false) (cX x0 (W .i64 (x3+1)))) (none)) (none)) (cX x0 (W .i64 (x3+1))))) (none))) (none))) (none))) (none)) (some true)
def jG.l2(N:Nat):Nat→jG.bT
 |0,_,_=>none
 |n+1,x0,x3=>jG.ec N (jG.l2 N n) x0 x3
def jG.b(N:Nat)(fx:jG.bT)(a0:av):Option (Bool):=
 fx a0 (0:Int)
def jG(N:Nat)(a0:av):Option (Bool):=jG.b N (jG.l2 N N) a0
abbrev iZ.bT:=av→Int→Int→Option (Int)
def iZ.ec(N:Nat)(cX:iZ.bT)(x0:av)(x1:Int)(x5:Int):Option (Int):=
 cond (aG x5 (List.length x0:Int)) (cond (aI x5 (List.length x0)) (cond (ay ((List.getD x0 x5.toNat ca).1) x1) (cond (aI x5 (List.length x0)) (some (((List.getD x0 x5.toNat ca).2).1)) (none)) (cX x0 x1 (W .i64 (x5+1)))) (none)) (some (0:Int))
def iZ.l2(N:Nat):Nat→iZ.bT
 |0,_,_,_=>none
 |n+1,x0,x1,x5=>iZ.ec N (iZ.l2 N n) x0 x1 x5
def iZ.b(N:Nat)(fx:iZ.bT)(a0:av)(a1:Int):Option (Int):=
 fx a0 a1 (0:Int)
def iZ(N:Nat)(a0:av)(a1:Int):Option (Int):=iZ.b N (iZ.l2 N N) a0 a1
abbrev gK.I4:=av→Int→av→Int→Option (av×(Int))
abbrev gK.cJ:=av→Int→av→Int→Option (av×(Int))
def gK.H7(N:Nat)(x0:av)(x1:Int)(x6:av)(x7:Int):Option (av×(Int)):=
 cond (fB 0 x7 (List.length x0:Int) (List.length x0:Int)) (let v6:List ((Int)×((Int)×(Unit))):=List.drop (0:Int).toNat (List.take x7.toNat x0);cond (small (List.length x6+List.length v6)) (let v7:List ((Int)×((Int)×(Unit))):=x6++v6;cond (small (List.length v7+List.length ([(x1,((1:Int),()))]))) (let v8:List ((Int)×((Int)×(Unit))):=v7++([(x1,((1:Int),()))]);cond (fB x7 (List.length x0:Int) (List.length x0:Int) (List.length x0:Int)) (let v9:List ((Int)×((Int)×(Unit))):=List.drop x7.toNat (List.take (List.length x0:Int).toNat x0);cond (small (List.length v8+List.length v9)) (some ((v8++v9),(0:Int))) (none)) (none)) (none)) (none)) (none)
def gK.j9(N:Nat)(x0:av)(x1:Int)(x6:av)(x7:Int):Option (av×(Int)):=gK.H7 N x0 x1 x6 x7
def gK.lC(N:Nat)(zQ:gK.I4)(cz:gK.cJ)(x0:av)(x1:Int)(x6:av)(x7:Int):Option (av×(Int)):=
 cond (aG x7 (List.length x0:Int)) (cond (aI x7 (List.length x0)) (cond (aG ((List.getD x0 x7.toNat ca).1) x1) (cz x0 x1 x6 (W .i64 (x7+1))) (zQ x0 x1 x6 x7)) (none)) (zQ x0 x1 x6 x7)
def gK.l7(N:Nat):Nat→gK.cJ
 |0,_,_,_,_=>none
 |n+1,x0,x1,x6,x7=>gK.lC N (gK.j9 N) (gK.l7 N n) x0 x1 x6 x7
def gK.b(N:Nat)(nc:gK.cJ)(a0:av)(a1:Int):Option (av×(Int)):=
 (jG N a0).bind fun r1=>cond (!r1) (some ([],(1:Int))) (cond (aG a1 1) (some ([],(1:Int))) (cond (aG 12 a1) (some ([],(1:Int))) ((iZ N a0 a1).bind fun r2=>cond (!ay r2 0) (some ([],(4:Int))) (nc a0 a1 ([]) (0:Int)))))
def gK(N:Nat)(a0:av)(a1:Int):Option (av×(Int)):=gK.b N (gK.l7 N N) a0 a1
def ei(N:Nat)(a0:Int):Option cE:=
 some (a0,ca)
abbrev iu.fy:=aE→Int→bS→Int→Option (Bool)
abbrev iu.I1:=aE→Int→bS→Option (Bool)
abbrev iu.bT:=aE→Int→Option (Bool)
def iu.xR(N:Nat)(cX:iu.bT)(dy:iu.fy)(x0:aE)(x3:Int)(x4:bS)(x5:Int):Option (Bool):=
 cond (aG x5 x3) (cond (ay x4.2.2.1 1) (cond (aI x5 (List.length x0)) (cond (ay ((((List.getD x0 x5.toNat aS).2).2).1) (1:Int)) (cond (aI x5 (List.length x0)) (cond (ay (((List.getD x0 x5.toNat aS).2).1) x4.2.1) (some false) (dy x0 x3 x4 (W .i64 (x5+1)))) (none)) (dy x0 x3 x4 (W .i64 (x5+1)))) (none)) (dy x0 x3 x4 (W .i64 (x5+1)))) (cX x0 (W .i64 (x3+1)))
def iu.l8(N:Nat)(cX:iu.bT):Nat→iu.fy
 |0,_,_,_,_=>none
 |n+1,x0,x3,x4,x5=>iu.xR N cX (iu.l8 N cX n) x0 x3 x4 x5
def iu.H4(N:Nat)(zR:iu.fy)(cX:iu.bT)(x0:aE)(x3:Int)(x4:bS):Option (Bool):=
 zR x0 x3 x4 (0:Int)
def iu.j7(N:Nat)(cX:iu.bT)(x0:aE)(x3:Int)(x4:bS):Option (Bool):=iu.H4 N (iu.l8 N cX N) cX x0 x3 x4
def iu.ec(N:Nat)(vH:iu.I1)(cX:iu.bT)(x0:aE)(x3:Int):Option (Bool):=
 cond (aG x3 (List.length x0:Int)) (cond (aI x3 (List.length x0)) (cond (aG ((List.getD x0 x3.toNat aS).1) (1:Int)) (some false) (cond (aG 24 ((List.getD x0 x3.toNat aS).1)) (some false) (cond (aG (((List.getD x0 x3.toNat aS).2).1) (1:Int)) (some false) (cond (aG 12 (((List.getD x0 x3.toNat aS).2).1)) (some false) (cond (!ay ((((List.getD x0 x3.toNat aS).2).2).1) (1:Int)) (cond (!ay ((((List.getD x0 x3.toNat aS).2).2).1) (2:Int)) (some false) (cond (aG (((((List.getD x0 x3.toNat aS).2).2).2).1) (0:Int)) (some false) (cond (aG 1000000000000 (((((List.getD x0 x3.toNat aS).2).2).2).1)) (some false) (cond (aG 0 x3) (let v2:Int:=W .i64 (x3-1);cond (aI v2 (List.length x0)) (cond (bR ((List.getD x0 x3.toNat aS).1) ((List.getD x0 v2.toNat aS).1)) (some false) (vH x0 x3 (List.getD x0 x3.toNat aS))) (none)) (vH x0 x3 (List.getD x0 x3.toNat aS)))))) (cond (aG (((((List.getD x0 x3.toNat aS).2).2).2).1) (0:Int)) (some false) (cond (aG 1000000000000 (((((List.getD x0 x3.toNat aS).2).2).2).1)) (some false) (cond (aG 0 x3) (let v9:Int:=W .i64 (x3-1);cond (aI v9 (List.length x0)) (cond (bR ((List.getD x0 x3.toNat aS).1) ((List.getD x0 v9.toNat aS).1)) (some false) (vH x0 x3 (List.getD x0 x3.toNat aS))) (none)) (vH x0 x3 (List.getD x0 x3.toNat aS)))))))))) (none)) (some true)
def iu.l2(N:Nat):Nat→iu.bT
 |0,_,_=>none
 |n+1,x0,x3=>iu.ec N (iu.j7 N (iu.l2 N n)) (iu.l2 N n) x0 x3
def iu.b(N:Nat)(fx:iu.bT)(a0:aE):Option (Bool):=
 fx a0 (0:Int)
def iu(N:Nat)(a0:aE):Option (Bool):=iu.b N (iu.l2 N N) a0
abbrev jY.aU:=av→aE→Int→Option (Bool)
def jY.cj(N:Nat)(br:jY.aU)(x0:av)(x1:aE)(x5:Int):Option (Bool):=
 cond (aG x5 (List.length x1:Int)) (cond (aI x5 (List.length x1)) ((iZ N x0 (((List.getD x1 x5.toNat aS).2).1)).bind fun r4=>cond (ay r4 0) (some false) (br x0 x1 (W .i64 (x5+1)))) (none)) (some true)
def jY.l4(N:Nat):Nat→jY.aU
 |0,_,_,_=>none
 |n+1,x0,x1,x5=>jY.cj N (jY.l4 N n) x0 x1 x5
def jY.b(N:Nat)(cT:jY.aU)(a0:av)(a1:aE):Option (Bool):=
 (jG N a0).bind fun r1=>cond (!r1) (some false) ((iu N a1).bind fun r2=>cond (!r2) (some false) (cT a0 a1 (0:Int)))
def jY(N:Nat)(a0:av)(a1:aE):Option (Bool):=jY.b N (jY.l4 N N) a0 a1
abbrev jI.bT:=aE→Int→bS→Int→Option (bS×(Bool))
def jI.ec(N:Nat)(cX:jI.bT)(x0:aE)(x1:Int)(x4:bS)(x6:Int):Option (bS×(Bool)):=
 cond (aG x6 (List.length x0:Int)) (cond (aI x6 (List.length x0)) (cond (ay ((List.getD x0 x6.toNat aS).1) x1) (cond (aI x6 (List.length x0)) (some (List.getD x0 x6.toNat aS,true)) (none)) (cX x0 x1 x4 (W .i64 (x6+1)))) (none)) (some (aS,false))
def jI.l2(N:Nat):Nat→jI.bT
 |0,_,_,_,_=>none
 |n+1,x0,x1,x4,x6=>jI.ec N (jI.l2 N n) x0 x1 x4 x6
def jI.b(N:Nat)(fx:jI.bT)(a0:aE)(a1:Int):Option (bS×(Bool)):=
 fx a0 a1 aS (0:Int)
def jI(N:Nat)(a0:aE)(a1:Int):Option (bS×(Bool)):=jI.b N (jI.l2 N N) a0 a1
abbrev sQ.aU:=aE→Int→Int→Option (Int)
def sQ.cj(N:Nat)(br:sQ.aU)(x0:aE)(x1:Int)(x5:Int):Option (Int):=
 cond (aG x5 (List.length x0:Int)) (cond (aI x5 (List.length x0)) (cond (ay (((List.getD x0 x5.toNat aS).2).1) x1) (cond (aI x5 (List.length x0)) (cond (ay ((((List.getD x0 x5.toNat aS).2).2).1) (1:Int)) (cond (aI x5 (List.length x0)) (some ((List.getD x0 x5.toNat aS).1)) (none)) (br x0 x1 (W .i64 (x5+1)))) (none)) (br x0 x1 (W .i64 (x5+1)))) (none)) (some (0:Int))
def sQ.l4(N:Nat):Nat→sQ.aU
 |0,_,_,_=>none
 |n+1,x0,x1,x5=>sQ.cj N (sQ.l4 N n) x0 x1 x5
def sQ.b(N:Nat)(cT:sQ.aU)(a0:aE)(a1:Int):Option (Int):=
 (iu N a0).bind fun r1=>cond (!r1) (some (0:Int)) (cT a0 a1 (0:Int))
def sQ(N:Nat)(a0:aE)(a1:Int):Option (Int):=sQ.b N (sQ.l4 N N) a0 a1
abbrev eh.zS:=aE→bS→aE→Int→Option (aE×(Int))
abbrev eh.dP:=aE→bS→aE→Int→Option (aE×(Int))
abbrev eh.FZ:=aE→bS→Option (aE×(Int))
def eh.s5(N:Nat)(x1:aE)(x5:bS)(aH:aE)(aL:Int):Option (aE×(Int)):=
 cond (fB 0 aL (List.length x1:Int) (List.length x1:Int)) (let v10:List ((Int)×((Int)×((Int)×((Int)×(Unit))))):=List.drop (0:Int).toNat (List.take aL.toNat x1);cond (small (List.length aH+List.length v10)) (let v11:List ((Int)×((Int)×((Int)×((Int)×(Unit))))):=aH++v10;cond (small (List.length v11+List.length ([x5]))) (let W2:List ((Int)×((Int)×((Int)×((Int)×(Unit))))):=v11++([x5]);cond (fB aL (List.length x1:Int) (List.length x1:Int) (List.length x1:Int)) (let W9:List ((Int)×((Int)×((Int)×((Int)×(Unit))))):=List.drop aL.toNat (List.take (List.length x1:Int).toNat x1);cond (small (List.length W2+List.length W9)) (some ((W2++W9),(0:Int))) (none)) (none)) (none)) (none)) (none)
def eh.AN(N:Nat)(x1:aE)(x5:bS)(aH:aE)(aL:Int):Option (aE×(Int)):=eh.s5 N x1 x5 aH aL
def eh.j2(N:Nat)(pO:eh.zS)(fi:eh.dP)(x1:aE)(x5:bS)(aH:aE)(aL:Int):Option (aE×(Int)):=
 cond (aG aL (List.length x1:Int)) (cond (aI aL (List.length x1)) (cond (aG ((List.getD x1 aL.toNat aS).1) x5.1) (fi x1 x5 aH (W .i64 (aL+1))) (pO x1 x5 aH aL)) (none)) (pO x1 x5 aH aL)
def eh.lH(N:Nat):Nat→eh.dP
 |0,_,_,_,_=>none
 |n+1,x1,x5,aH,aL=>eh.j2 N (eh.AN N) (eh.lH N n) x1 x5 aH aL
def eh.zB(N:Nat)(oD:eh.dP)(x1:aE)(x5:bS):Option (aE×(Int)):=
 oD x1 x5 ([]) (0:Int)
def eh.Hw(N:Nat)(x1:aE)(x5:bS):Option (aE×(Int)):=eh.zB N (eh.lH N N) x1 x5
def eh.b(N:Nat)(wS:eh.FZ)(a0:av)(a1:aE)(a2:bS):Option (aE×(Int)):=
 (jY N a0 a1).bind fun r1=>cond (!r1) (some ([],(1:Int))) ((iu N ([a2])).bind fun r2=>cond (!r2) (some ([],(1:Int))) ((iZ N a0 a2.2.1).bind fun r3=>cond (ay r3 0) (some ([],(3:Int))) (cond (!ay r3 1) (some ([],(7:Int))) ((jI N a1 a2.1).bind fun r4=>cond (r4.2) (some ([],(4:Int))) (cond (ay a2.2.2.1 1) ((sQ N a1 a2.2.1).bind fun r5=>cond (!ay r5 0) (some ([],(4:Int))) (wS a1 a2)) (wS a1 a2))))))
def eh(N:Nat)(a0:av)(a1:aE)(a2:bS):Option (aE×(Int)):=eh.b N (eh.Hw N) a0 a1 a2
def y3(N:Nat)(a0:aE)(a1:Int):Option (bS×(Bool)):=
 (iu N a0).bind fun r1=>cond (!r1) (some (aS,false)) ((jI N a0 a1).bind fun r2=>some (r2.1,r2.2))
def OX(N:Nat)(a0:aT)(a1:Int):Option (Bool):=
 (y3 N a0.2.2.1.2.1 a1).bind fun r1=>some r1.2
abbrev jW.bT:=(List (Int))→Int→Option (List (Int))
def jW.ec(N:Nat)(cX:jW.bT)(x0:List (Int))(x3:Int):Option (List (Int)):=
 cond (aG 0 x3) (let v2:Int:=W .i64 (x3-1);cond (aI v2 (List.length x0)) (cond (ay (List.getD x0 v2.toNat (0:Int)) (0:Int)) (cX x0 (W .i64 (x3-1))) (cond (fB 0 x3 x3 (List.length x0:Int)) (some (List.drop (0:Int).toNat (List.take x3.toNat x0))) (none))) (none)) (cond (fB 0 x3 x3 (List.length x0:Int)) (some (List.drop (0:Int).toNat (List.take x3.toNat x0))) (none))
def jW.l2(N:Nat):Nat→jW.bT
 |0,_,_=>none
 |n+1,x0,x3=>jW.ec N (jW.l2 N n) x0 x3
def jW.b(N:Nat)(fx:jW.bT)(a0:List (Int)):Option (List (Int)):=
 fx a0 (List.length a0:Int)
def jW(N:Nat)(a0:List (Int)):Option (List (Int)):=jW.b N (jW.l2 N N) a0
def F67(N:Nat)(a0:Int):Option (List (Int)):=
 cond (aG 32 0) (none) ((jW N ([(iV .and .u64 a0 4294967295),(shr .u64 a0 32)])).bind fun r3=>some r3)
def NB(N:Nat)(a0:Bool)(a1:List (Int)):Option au:=
 (jW N a1).bind fun r1=>cond (a0) (some (aG 0 (List.length r1:Int),(r1,()))) (some (false,(r1,())))
def gf(N:Nat)(a0:Int):Option au:=
 let v1:Int:=W .u64 a0;cond (aG a0 0) ((F67 N (W .u64 (0-v1))).bind fun r3=>(NB N (aG a0 0) r3).bind fun r4=>some r4) ((F67 N v1).bind fun r5=>(NB N (aG a0 0) r5).bind fun r6=>some r6)
def Ml(N:Nat)(a0:au):Option au:=
 (NB N (!a0.1) a0.2.1).bind fun r1=>some r1
def zC(N:Nat)(a0:Int)(a1:Int)(a2:Int)(a3:Int)(a4:au):Option bk:=
 (Ml N a4).bind fun r1=>some ([(a0,(a1,(r1,()))),(a2,(a3,(a4,())))])
def QS(N:Nat)(a0:List (Int))(a1:Int):Option (Int):=
 cond (aG a1 (List.length a0:Int)) (cond (aI a1 (List.length a0)) (some (List.getD a0 a1.toNat (0:Int))) (none)) (some (0:Int))
abbrev pL.Pl:=(List (Int))→(List (Int))→(List (Int))→Int→Int→Option (List (Int))
abbrev pL.aU:=(List (Int))→(List (Int))→(List (Int))→Int→Int→Option (List (Int))
def pL.Mk(N:Nat)(br:pL.aU)(x0:List (Int))(x1:List (Int))(x5:List (Int))(x6:Int)(x7:Int):Option (List (Int)):=
 (QS N x0 x7).bind fun r3=>(QS N x1 x7).bind fun r4=>let v6:Int:=W .u64 (x6+(W .u64 (r3+r4)));let v7:Int:=iV .and .u64 v6 4294967295;cond (small (List.length x5+List.length ([v7]))) (cond (aG 32 0) (none) (br x0 x1 (x5++([v7])) (shr .u64 v6 32) (W .i64 (x7+1)))) (none)
def pL.j6(N:Nat)(br:pL.aU)(x0:List (Int))(x1:List (Int))(x5:List (Int))(x6:Int)(x7:Int):Option (List (Int)):=pL.Mk N br x0 x1 x5 x6 x7
def pL.cj(N:Nat)(Dq:pL.Pl)(br:pL.aU)(x0:List (Int))(x1:List (Int))(x5:List (Int))(x6:Int)(x7:Int):Option (List (Int)):=
 cond (aG x7 (List.length x0:Int)) (Dq x0 x1 x5 x6 x7) (cond (aG x7 (List.length x1:Int)) (Dq x0 x1 x5 x6 x7) (cond (aG 0 x6) (Dq x0 x1 x5 x6 x7) (some x5)))
def pL.l4(N:Nat):Nat→pL.aU
 |0,_,_,_,_,_=>none
 |n+1,x0,x1,x5,x6,x7=>pL.cj N (pL.j6 N (pL.l4 N n)) (pL.l4 N n) x0 x1 x5 x6 x7
def pL.b(N:Nat)(cT:pL.aU)(a0:List (Int))(a1:List (Int)):Option (List (Int)):=
 cT a0 a1 ([]) (0:Int) (0:Int)
def pL(N:Nat)(a0:List (Int))(a1:List (Int)):Option (List (Int)):=pL.b N (pL.l4 N N) a0 a1
abbrev xe.fa:=(List (Int))→(List (Int))→Int→Option (Int)
def xe.oI(N:Nat)(fL:xe.fa)(x0:List (Int))(x1:List (Int))(x5:Int):Option (Int):=
 cond (bR 0 x5) (cond (aI x5 (List.length x0)) (cond (aI x5 (List.length x1)) (cond (aG (List.getD x0 x5.toNat (0:Int)) (List.getD x1 x5.toNat (0:Int))) (some (-1:Int)) (cond (aI x5 (List.length x0)) (cond (aI x5 (List.length x1)) (cond (aG (List.getD x1 x5.toNat (0:Int)) (List.getD x0 x5.toNat (0:Int))) (some (1:Int)) (fL x0 x1 (W .i64 (x5-1)))) (none)) (none))) (none)) (none)) (some (0:Int))
def xe.l6(N:Nat):Nat→xe.fa
 |0,_,_,_=>none
 |n+1,x0,x1,x5=>xe.oI N (xe.l6 N n) x0 x1 x5
def xe.b(N:Nat)(pC:xe.fa)(a0:List (Int))(a1:List (Int)):Option (Int):=
 cond (!ay (List.length a0:Int) (List.length a1:Int)) (cond (aG (List.length a0:Int) (List.length a1:Int)) (some (-1:Int)) (some (1:Int))) (pC a0 a1 (W .i64 ((List.length a0:Int)-1)))
def xe(N:Nat)(a0:List (Int))(a1:List (Int)):Option (Int):=xe.b N (xe.l6 N N) a0 a1
abbrev xO.aU:=(List (Int))→(List (Int))→(List (Int))→Int→Int→Option (List (Int))
def xO.cj(N:Nat)(br:xO.aU)(x0:List (Int))(x1:List (Int))(x5:List (Int))(x6:Int)(x7:Int):Option (List (Int)):=
 cond (aG x7 (List.length x0:Int)) (cond (aI x7 (List.length x0)) ((QS N x1 x7).bind fun r2=>let v3:Int:=W .u64 (r2+x6);cond (aG (List.getD x0 x7.toNat (0:Int)) v3) (let v5:Int:=W .u64 ((W .u64 ((List.getD x0 x7.toNat (0:Int))+4294967296))-v3);cond (small (List.length x5+List.length ([v5]))) (br x0 x1 (x5++([v5])) (1:Int) (W .i64 (x7+1))) (none)) (let v8:Int:=W .u64 ((List.getD x0 x7.toNat (0:Int))-v3);cond (small (List.length x5+List.length ([v8]))) (br x0 x1 (x5++([v8])) (0:Int) (W .i64 (x7+1))) (none))) (none)) (some x5)
def xO.l4(N:Nat):Nat→xO.aU
 |0,_,_,_,_,_=>none
 |n+1,x0,x1,x5,x6,x7=>xO.cj N (xO.l4 N n) x0 x1 x5 x6 x7
def xO.b(N:Nat)(cT:xO.aU)(a0:List (Int))(a1:List (Int)):Option (List (Int)):=
 cT a0 a1 ([]) (0:Int) (0:Int)
def xO(N:Nat)(a0:List (Int))(a1:List (Int)):Option (List (Int)):=xO.b N (xO.l4 N N) a0 a1
def tP(N:Nat)(a0:au)(a1:au):Option au:=
 cond (kV .bool a0.1 a1.1) ((pL N a0.2.1 a1.2.1).bind fun r1=>(NB N a0.1 r1).bind fun r2=>some r2) ((xe N a0.2.1 a1.2.1).bind fun r3=>cond (bR 0 r3) ((xO N a0.2.1 a1.2.1).bind fun r4=>(NB N a0.1 r4).bind fun r5=>some r5) ((xO N a1.2.1 a0.2.1).bind fun r6=>(NB N a1.1 r6).bind fun r7=>some r7))
def qz(N:Nat)(a0:au):Option ((Int)×(Bool)):=
 cond (aG 2 (List.length a0.2.1:Int)) (some ((0:Int),false)) ((QS N a0.2.1 (0:Int)).bind fun r1=>(QS N a0.2.1 (1:Int)).bind fun r2=>cond (aG 32 0) (none) (let v4:Int:=iV .or .u64 r1 (W .u64 (shl .u64 r2 32));cond (a0.1) (cond (aG 9223372036854775808 v4) (some ((0:Int),false)) (some ((W .i64 (W .u64 (0-v4))),true))) (cond (aG 9223372036854775807 v4) (some ((0:Int),false)) (some ((W .i64 v4),true)))))
def Iq(N:Nat)(a0:au):Option ((Int)×(Bool)):=
 (qz N a0).bind fun r1=>cond (!r1.2) (some ((0:Int),false)) (cond (ay r1.1 (-9223372036854775808)) (some ((0:Int),false)) (some (r1.1,true)))
abbrev bu.zT:=ah→ah→ah→Int→Int→Int→Int→Bool→au→Int→Option (ah×(Bool))
abbrev bu.FU:=ah→ah→ah→Int→Int→Int→Int→Bool→Option (ah×(Bool))
abbrev bu.cJ:=ah→ah→ah→Int→Int→Int→Option (ah×(Bool))
abbrev bu.aU:=ah→ah→ah→Int→Int→Option (ah×(Bool))
def bu.CW(N:Nat)(br:bu.aU)(cz:bu.cJ)(B2:bu.zT)(x0:ah)(x1:ah)(x6:ah)(x7:Int)(x8:Int)(x9:Int)(aO:Int)(aH:Bool)(aL:au)(bn:Int):Option (ah×(Bool)):=
 cond (aG bn (List.length x1:Int)) (cond (aI bn (List.length x1)) (cond (ay ((List.getD x1 bn.toNat aR).1) x8) (cond (aI bn (List.length x1)) (cond (ay (((List.getD x1 bn.toNat aR).2).1) x9) (cond (aI bn (List.length x1)) ((gf N ((((List.getD x1 bn.toNat aR).2).2).1)).bind fun r6=>(tP N aL r6).bind fun r7=>B2 x0 x1 x6 x7 x8 x9 aO true r7 (W .i64 (bn+1))) (none)) (B2 x0 x1 x6 x7 x8 x9 aO aH aL (W .i64 (bn+1)))) (none)) (B2 x0 x1 x6 x7 x8 x9 aO aH aL (W .i64 (bn+1)))) (none)) (cond (aH) ((gf N aO).bind fun kT=>(tP N aL kT).bind fun ma=>(Iq N ma).bind fun nu=>cond (!nu.2) (some ([],false)) (cond (!ay nu.1 0) (cond (small (List.length x6+List.length ([(x8,(x9,(nu.1,())))]))) (cz x0 x1 (x6++([(x8,(x9,(nu.1,())))])) x7 x8 (W .i64 (x9+1))) (none)) (cz x0 x1 x6 x7 x8 (W .i64 (x9+1))))) (cond (!ay aO 0) (cond (small (List.length x6+List.length ([(x8,(x9,(aO,())))]))) (cz x0 x1 (x6++([(x8,(x9,(aO,())))])) x7 x8 (W .i64 (x9+1))) (none)) (cz x0 x1 x6 x7 x8 (W .i64 (x9+1)))))
def bu.DI(N:Nat)(br:bu.aU)(cz:bu.cJ):Nat→bu.zT
 |0,_,_,_,_,_,_,_,_,_,_=>none
 |n+1,x0,x1,x6,x7,x8,x9,aO,aH,aL,bn=>bu.CW N br cz (bu.DI N br cz n) x0 x1 x6 x7 x8 x9 aO aH aL bn
def bu.tV(N:Nat)(Pm:bu.zT)(br:bu.aU)(cz:bu.cJ)(x0:ah)(x1:ah)(x6:ah)(x7:Int)(x8:Int)(x9:Int)(aO:Int)(aH:Bool):Option (ah×(Bool)):=
 Pm x0 x1 x6 x7 x8 x9 aO aH (false,kW) (0:Int)
def bu.CH(N:Nat)(br:bu.aU)(cz:bu.cJ)(x0:ah)(x1:ah)(x6:ah)(x7:Int)(x8:Int)(x9:Int)(aO:Int)(aH:Bool):Option (ah×(Bool)):=bu.tV N (bu.DI N br cz N) br cz x0 x1 x6 x7 x8 x9 aO aH
def bu.lC(N:Nat)(pN:bu.FU)(br:bu.aU)(cz:bu.cJ)(x0:ah)(x1:ah)(x6:ah)(x7:Int)(x8:Int)(x9:Int):Option (ah×(Bool)):=
 cond (aG x9 6) (cond (aG x7 (List.length x0:Int)) (cond (aI x7 (List.length x0)) (cond (ay ((List.getD x0 x7.toNat aR).1) x8) (cond (aI x7 (List.length x0)) (cond (ay (((List.getD x0 x7.toNat aR).2).1) x9) (cond (aI x7 (List.length x0)) (pN x0 x1 x6 (W .i64 (x7+1)) x8 x9 ((((List.getD x0 x7.toNat aR).2).2).1) false) (none)) (pN x0 x1 x6 x7 x8 x9 (0:Int) false)) (none)) (pN x0 x1 x6 x7 x8 x9 (0:Int) false)) (none)) (pN x0 x1 x6 x7 x8 x9 (0:Int) false)) (br x0 x1 x6 x7 (W .i64 (x8+1)))
def bu.l7(N:Nat)(br:bu.aU):Nat→bu.cJ
 |0,_,_,_,_,_,_=>none
 |n+1,x0,x1,x6,x7,x8,x9=>bu.lC N (bu.CH N br (bu.l7 N br n)) br (bu.l7 N br n) x0 x1 x6 x7 x8 x9
def bu.cj(N:Nat)(nc:bu.cJ)(br:bu.aU)(x0:ah)(x1:ah)(x6:ah)(x7:Int)(x8:Int):Option (ah×(Bool)):=
 cond (bR x8 24) (nc x0 x1 x6 x7 x8 (0:Int)) (some (x6,true))
def bu.l4(N:Nat):Nat→bu.aU
 |0,_,_,_,_,_=>none
 |n+1,x0,x1,x6,x7,x8=>bu.cj N (bu.l7 N (bu.l4 N n) N) (bu.l4 N n) x0 x1 x6 x7 x8
def bu.b(N:Nat)(cT:bu.aU)(a0:ah)(a1:ah):Option (ah×(Bool)):=
 cT a0 a1 ([]) (0:Int) (0:Int)
def bu(N:Nat)(a0:ah)(a1:ah):Option (ah×(Bool)):=bu.b N (bu.l4 N N) a0 a1
abbrev jv.cf:=Int→Int→Int→bk→au→Bool→Int→Option ((Int)×(Bool))
def jv.gZ(N:Nat)(bQ:jv.cf)(x0:Int)(x1:Int)(x2:Int)(x3:bk)(aO:au)(aH:Bool)(aL:Int):Option ((Int)×(Bool)):=
 cond (aG aL (List.length x3:Int)) (cond (aI aL (List.length x3)) (cond (ay ((List.getD x3 aL.toNat ((0:Int),((0:Int),((false,kW),())))).1) x1) (cond (aI aL (List.length x3)) (cond (ay (((List.getD x3 aL.toNat ((0:Int),((0:Int),((false,kW),())))).2).1) x2) (cond (aI aL (List.length x3)) ((tP N aO ((((List.getD x3 aL.toNat ((0:Int),((0:Int),((false,kW),())))).2).2).1)).bind fun r2=>bQ x0 x1 x2 x3 r2 true (W .i64 (aL+1))) (none)) (bQ x0 x1 x2 x3 aO aH (W .i64 (aL+1)))) (none)) (bQ x0 x1 x2 x3 aO aH (W .i64 (aL+1)))) (none)) (cond (!aH) (some (x0,true)) ((gf N x0).bind fun r6=>(tP N aO r6).bind fun r7=>(qz N r7).bind fun r8=>some (r8.1,r8.2)))
def jv.l3(N:Nat):Nat→jv.cf
 |0,_,_,_,_,_,_,_=>none
 |n+1,x0,x1,x2,x3,aO,aH,aL=>jv.gZ N (jv.l3 N n) x0 x1 x2 x3 aO aH aL
def jv.b(N:Nat)(iI:jv.cf)(a0:Int)(a1:Int)(a2:Int)(a3:bk):Option ((Int)×(Bool)):=
 iI a0 a1 a2 a3 (false,kW) false (0:Int)
def jv(N:Nat)(a0:Int)(a1:Int)(a2:Int)(a3:bk):Option ((Int)×(Bool)):=jv.b N (jv.l3 N N) a0 a1 a2 a3
abbrev ck.FU:=ah→bk→ah→Int→Int→Int→Int→Option (ah×(Bool))
abbrev ck.cJ:=ah→bk→ah→Int→Int→Int→Option (ah×(Bool))
abbrev ck.aU:=ah→bk→ah→Int→Int→Option (ah×(Bool))
def ck.tV(N:Nat)(br:ck.aU)(cz:ck.cJ)(x0:ah)(x1:bk)(x6:ah)(x7:Int)(x8:Int)(x9:Int)(aO:Int):Option (ah×(Bool)):=
 (jv N aO x8 x9 x1).bind fun r5=>cond (!r5.2) (some ([],false)) (cond (!ay r5.1 0) (cond (small (List.length x6+List.length ([(x8,(x9,(r5.1,())))]))) (cz x0 x1 (x6++([(x8,(x9,(r5.1,())))])) x7 x8 (W .i64 (x9+1))) (none)) (cz x0 x1 x6 x7 x8 (W .i64 (x9+1))))
def ck.CH(N:Nat)(br:ck.aU)(cz:ck.cJ)(x0:ah)(x1:bk)(x6:ah)(x7:Int)(x8:Int)(x9:Int)(aO:Int):Option (ah×(Bool)):=ck.tV N br cz x0 x1 x6 x7 x8 x9 aO
def ck.lC(N:Nat)(pN:ck.FU)(br:ck.aU)(cz:ck.cJ)(x0:ah)(x1:bk)(x6:ah)(x7:Int)(x8:Int)(x9:Int):Option (ah×(Bool)):=
 cond (bR x9 24) (cond (aG x7 (List.length x0:Int)) (cond (aI x7 (List.length x0)) (cond (ay ((List.getD x0 x7.toNat aR).1) x8) (cond (aI x7 (List.length x0)) (cond (ay (((List.getD x0 x7.toNat aR).2).1) x9) (cond (aI x7 (List.length x0)) (pN x0 x1 x6 (W .i64 (x7+1)) x8 x9 ((((List.getD x0 x7.toNat aR).2).2).1)) (none)) (pN x0 x1 x6 x7 x8 x9 (0:Int))) (none)) (pN x0 x1 x6 x7 x8 x9 (0:Int))) (none)) (pN x0 x1 x6 x7 x8 x9 (0:Int))) (br x0 x1 x6 x7 (W .i64 (x8+1)))
def ck.l7(N:Nat)(br:ck.aU):Nat→ck.cJ
 |0,_,_,_,_,_,_=>none
 |n+1,x0,x1,x6,x7,x8,x9=>ck.lC N (ck.CH N br (ck.l7 N br n)) br (ck.l7 N br n) x0 x1 x6 x7 x8 x9
def ck.cj(N:Nat)(nc:ck.cJ)(br:ck.aU)(x0:ah)(x1:bk)(x6:ah)(x7:Int)(x8:Int):Option (ah×(Bool)):=
 cond (bR x8 7) (nc x0 x1 x6 x7 x8 (0:Int)) (some (x6,true))
def ck.l4(N:Nat):Nat→ck.aU
 |0,_,_,_,_,_=>none
 |n+1,x0,x1,x6,x7,x8=>ck.cj N (ck.l7 N (ck.l4 N n) N) (ck.l4 N n) x0 x1 x6 x7 x8
def ck.b(N:Nat)(cT:ck.aU)(a0:ah)(a1:bk):Option (ah×(Bool)):=
 cT a0 a1 ([]) (0:Int) (1:Int)
def ck(N:Nat)(a0:ah)(a1:bk):Option (ah×(Bool)):=ck.b N (ck.l4 N N) a0 a1
def uw(N:Nat)(a0:ag)(a1:ah)(a2:bk):Option (ag×(Int)):=
 (bu N a0.2.2.2.1 a1).bind fun r1=>cond (!r1.2) (some ((bN,(cI,(bq,(bq,(c3,(de,())))))),(2:Int))) ((ck N a0.2.2.1 a2).bind fun r2=>cond (!r2.2) (some ((bN,(cI,(bq,(bq,(c3,(de,())))))),(2:Int))) (some ((a0.1,(a0.2.1,(r2.1,(r1.1,a0.2.2.2.2)))),(0:Int))))
def LW(N:Nat)(a0:aT)(a1:Int)(a2:Int)(a3:Int)(a4:Int)(a5:Int):Option (aT×cE):=
 (gf N a5).bind fun r1=>(zC N a1 a2 a3 a4 r1).bind fun r2=>(uw N a0.2.2.1 bq r2).bind fun r3=>some ((a0.1,(a0.2.1,(r3.1,a0.2.2.2))),(r3.2,ca))
def Ic(N:Nat)(a0:Int)(a1:Int):Option (Bool):=
 cond (ay a0 1) (some (ay a1 0)) (cond (ay a0 2) (some (ay a1 0)) (cond (ay a0 3) (some (ay a1 0)) (cond (ay a0 4) (some (ay a1 0)) (cond (ay a0 5) (cond (bR 1 a1) (some (bR a1 24)) (some false)) (cond (ay a0 6) (cond (bR 1 a1) (some (bR a1 12)) (some false)) (cond (ay a0 7) (cond (bR 1 a1) (some (bR a1 12)) (some false)) (some false)))))))
abbrev vp.bT:=ah→Int→Option (Bool)
def vp.ec(N:Nat)(cX:vp.bT)(x0:ah)(x3:Int):Option (Bool):=
 cond (aG x3 (List.length x0:Int)) (cond (aI x3 (List.length x0)) (cond (aI x3 (List.length x0)) ((Ic N ((List.getD x0 x3.toNat aR).1) (((List.getD x0 x3.toNat aR).2).1)).bind fun r2=>cond (!r2) (some false) (cond (aI x3 (List.length x0)) (cond (ay ((((List.getD x0 x3.toNat aR).2).2).1) (0:Int)) (some false) (cond (aG 0 x3) (cond (aI x3 (List.length x0)) (let v3:Int:=W .i64 (x3-1);cond (aI v3 (List.length x0)) (cond (aG ((List.getD x0 x3.toNat aR).1) ((List.getD x0 v3.toNat aR).1)) (some false) (cond (aI x3 (List.length x0)) (let v4:Int:=W .i64 (x3-1);cond (aI v4 (List.length x0)) (cond (ay ((List.getD x0 x3.toNat aR).1) ((List.getD x0 v4.toNat aR).1)) (cond (aI x3 (List.length x0)) (let v5:Int:=W .i64 (x3-1);cond (aI v5 (List.length x0)) (cond (bR (((List.getD x0 x3.toNat aR).2).1) (((List.getD x0 v5.toNat aR).2).1)) (some false) (cX x0 (W .i64 (x3+1)))) (none)) (none)) (cX x0 (W .i64 (x3+1)))) (none)) (none))) (none)) (none)) (cX x0 (W .i64 (x3+1))))) (none))) (none)) (none)) (some true)
def vp.l2(N:Nat):Nat→vp.bT
 |0,_,_=>none
 |n+1,x0,x3=>vp.ec N (vp.l2 N n) x0 x3
def vp.b(N:Nat)(fx:vp.bT)(a0:ah):Option (Bool):=
 fx a0 (0:Int)
def vp(N:Nat)(a0:ah):Option (Bool):=vp.b N (vp.l2 N N) a0
abbrev tb.bT:=ah→Int→Option (Bool)
def tb.ec(N:Nat)(cX:tb.bT)(x0:ah)(x3:Int):Option (Bool):=
 cond (aG x3 (List.length x0:Int)) (cond (aI x3 (List.length x0)) (cond (aG ((List.getD x0 x3.toNat aR).1) (0:Int)) (some false) (cond (aG 24 ((List.getD x0 x3.toNat aR).1)) (some false) (cond (aG (((List.getD x0 x3.toNat aR).2).1) (0:Int)) (some false) (cond (bR 6 (((List.getD x0 x3.toNat aR).2).1)) (some false) (cond (ay ((((List.getD x0 x3.toNat aR).2).2).1) (0:Int)) (some false) (cond (ay ((((List.getD x0 x3.toNat aR).2).2).1) (-9223372036854775808:Int)) (some false) (cond (aG 0 x3) (let v2:Int:=W .i64 (x3-1);cond (aI v2 (List.length x0)) (cond (aG ((List.getD x0 x3.toNat aR).1) ((List.getD x0 v2.toNat aR).1)) (some false) (let v3:Int:=W .i64 (x3-1);cond (aI v3 (List.length x0)) (cond (ay ((List.getD x0 x3.toNat aR).1) ((List.getD x0 v3.toNat aR).1)) (let v4:Int:=W .i64 (x3-1);cond (aI v4 (List.length x0)) (cond (bR (((List.getD x0 x3.toNat aR).2).1) (((List.getD x0 v4.toNat aR).2).1)) (some false) (cX x0 (W .i64 (x3+1)))) (none)) (cX x0 (W .i64 (x3+1)))) (none))) (none)) (cX x0 (W .i64 (x3+1)))))))))) (none)) (some true)
def tb.l2(N:Nat):Nat→tb.bT
 |0,_,_=>none
 |n+1,x0,x3=>tb.ec N (tb.l2 N n) x0 x3
def tb.b(N:Nat)(fx:tb.bT)(a0:ah):Option (Bool):=
 fx a0 (0:Int)
def tb(N:Nat)(a0:ah):Option (Bool):=tb.b N (tb.l2 N N) a0
abbrev kH.bg:=ah→Int→au→au→Int→Option au
def kH.dp(N:Nat)(bb:kH.bg)(x0:ah)(x1:Int)(x4:au)(x5:au)(x6:Int):Option au:=
 cond (aG x6 (List.length x0:Int)) (cond (aI x6 (List.length x0)) (cond (ay (((List.getD x0 x6.toNat aR).2).1) x1) (cond (aI x6 (List.length x0)) ((gf N ((((List.getD x0 x6.toNat aR).2).2).1)).bind fun r3=>(tP N x5 r3).bind fun r4=>bb x0 x1 x4 r4 (W .i64 (x6+1))) (none)) (bb x0 x1 x4 x5 (W .i64 (x6+1)))) (none)) (some x5)
def kH.l5(N:Nat):Nat→kH.bg
 |0,_,_,_,_,_=>none
 |n+1,x0,x1,x4,x5,x6=>kH.dp N (kH.l5 N n) x0 x1 x4 x5 x6
def kH.b(N:Nat)(dF:kH.bg)(a0:ah)(a1:Int):Option au:=
 (tb N a0).bind fun r1=>cond (!r1) (some (false,kW)) (dF a0 a1 (false,kW) (false,kW) (0:Int))
def kH(N:Nat)(a0:ah)(a1:Int):Option au:=kH.b N (kH.l5 N N) a0 a1
def JQ(N:Nat)(a0:au):Option (Int):=
 cond (ay (List.length a0.2.1:Int) 0) (some (0:Int)) (cond (a0.1) (some (-1:Int)) (some (1:Int)))
abbrev k5.bT:=ah→Int→Option (Bool)
def k5.ec(N:Nat)(cX:k5.bT)(x0:ah)(x3:Int):Option (Bool):=
 cond (aG x3 6) ((kH N x0 x3).bind fun r2=>(JQ N r2).bind fun r3=>cond (!ay r3 0) (some false) (cX x0 (W .i64 (x3+1)))) ((tb N x0).bind fun r5=>some r5)
def k5.l2(N:Nat):Nat→k5.bT
 |0,_,_=>none
 |n+1,x0,x3=>k5.ec N (k5.l2 N n) x0 x3
def k5.b(N:Nat)(fx:k5.bT)(a0:ah):Option (Bool):=
 fx a0 (0:Int)
def k5(N:Nat)(a0:ah):Option (Bool):=k5.b N (k5.l2 N N) a0
def xh(N:Nat)(a0:Int):Option (Bool):=
 cond (bR 1 a0) (some (bR a0 1000000000000)) (some false)
def Ih(N:Nat)(a0:fJ):Option (Bool):=
 cond (bR 1 a0.1) (cond (bR a0.1 1099511627776) (cond (bR 1 a0.2.1) (cond (bR a0.2.1 24) (cond (bR 0 a0.2.2.1) (cond (aG a0.2.2.1 6) (cond (ay a0.2.2.2.1 1) (cond (bR 1 a0.2.2.2.2.1) (cond (bR a0.2.2.2.2.1 1000000000) ((xh N a0.2.2.2.2.2.1).bind fun r1=>some r1) (some false)) (some false)) (cond (ay a0.2.2.2.1 2) (cond (bR 1 a0.2.2.2.2.1) (cond (bR a0.2.2.2.2.1 1000000000) ((xh N a0.2.2.2.2.2.1).bind fun r2=>some r2) (some false)) (some false)) (some false))) (some false)) (some false)) (some false)) (some false)) (some false)) (some false)
abbrev iY.aU:=aW→Int→Option (Bool)
def iY.cj(N:Nat)(br:iY.aU)(x0:aW)(x3:Int):Option (Bool):=
 cond (aG x3 (List.length x0:Int)) (cond (aI x3 (List.length x0)) ((Ih N (List.getD x0 x3.toNat eG)).bind fun r2=>cond (!r2) (some false) (cond (aG 0 x3) (cond (aI x3 (List.length x0)) (let v3:Int:=W .i64 (x3-1);cond (aI v3 (List.length x0)) (cond (bR ((List.getD x0 x3.toNat eG).1) ((List.getD x0 v3.toNat eG).1)) (some false) (br x0 (W .i64 (x3+1)))) (none)) (none)) (br x0 (W .i64 (x3+1))))) (none)) (some true)
def iY.l4(N:Nat):Nat→iY.aU
 |0,_,_=>none
 |n+1,x0,x3=>iY.cj N (iY.l4 N n) x0 x3
def iY.b(N:Nat)(cT:iY.aU)(a0:aW):Option (Bool):=
 cond (aG 32 (List.length a0:Int)) (some false) (cT a0 (0:Int))
def iY(N:Nat)(a0:aW):Option (Bool):=iY.b N (iY.l4 N N) a0
abbrev kF.bg:=ah→au→au→Int→Option au
def kF.dp(N:Nat)(bb:kF.bg)(x0:ah)(x2:au)(x3:au)(x4:Int):Option au:=
 cond (aG x4 (List.length x0:Int)) (cond (aI x4 (List.length x0)) ((gf N ((((List.getD x0 x4.toNat aR).2).2).1)).bind fun r3=>(tP N x3 r3).bind fun r4=>bb x0 x2 r4 (W .i64 (x4+1))) (none)) (some x3)
def kF.l5(N:Nat):Nat→kF.bg
 |0,_,_,_,_=>none
 |n+1,x0,x2,x3,x4=>kF.dp N (kF.l5 N n) x0 x2 x3 x4
def kF.b(N:Nat)(dF:kF.bg)(a0:ah):Option au:=
 (vp N a0).bind fun r1=>cond (!r1) (some (false,kW)) (dF a0 (false,kW) (false,kW) (0:Int))
def kF(N:Nat)(a0:ah):Option au:=kF.b N (kF.l5 N N) a0
def CR(N:Nat)(a0:ag)(a1:Int):Option (Bool):=
 (y3 N a0.2.1 a1).bind fun r1=>cond (r1.2) (some true) (some (ay a1 0))
def ub(N:Nat)(a0:av)(a1:Int):Option (Int):=
 (jG N a0).bind fun r1=>cond (!r1) (some (0:Int)) ((iZ N a0 a1).bind fun r2=>some r2)
abbrev bC.m6:=ae→ag→Int→Option (Bool)
abbrev bC.zJ:=ae→ag→Int→Option (Bool)
abbrev bC.fH:=ae→ag→Int→Option (Bool)
abbrev bC.fa:=ae→ag→Int→Option (Bool)
def bC.rV(N:Nat)(zF:bC.m6)(x2:ae)(x3:ag)(x9:Int):Option (Bool):=
 cond (aG x9 (List.length x3.2.2.2.2.2.1:Int)) (cond (aI x9 (List.length x3.2.2.2.2.2.1)) ((CR N x3 (((List.getD x3.2.2.2.2.2.1 x9.toNat eG).2).1)).bind fun L7=>cond (!L7) (some false) (cond (aI x9 (List.length x3.2.2.2.2.2.1)) (cond (bR (List.length x2.1:Int) ((((List.getD x3.2.2.2.2.2.1 x9.toNat eG).2).2).1)) (some false) (zF x2 x3 (W .i64 (x9+1)))) (none))) (none)) (some true)
def bC.sS(N:Nat):Nat→bC.m6
 |0,_,_,_=>none
 |n+1,x2,x3,x9=>bC.rV N (bC.sS N n) x2 x3 x9
def bC.EO(N:Nat)(zH:bC.m6)(Kl:bC.zJ)(x2:ae)(x3:ag)(x8:Int):Option (Bool):=
 cond (aG x8 (List.length x3.2.2.2.2.1:Int)) (cond (aI x8 (List.length x3.2.2.2.2.1)) ((xh N (List.getD x3.2.2.2.2.1 x8.toNat (0:Int))).bind fun DM=>cond (!DM) (some false) (Kl x2 x3 (W .i64 (x8+1)))) (none)) (zH x2 x3 (0:Int))
def bC.EN(N:Nat):Nat→bC.zJ
 |0,_,_,_=>none
 |n+1,x2,x3,x8=>bC.EO N (bC.sS N N) (bC.EN N n) x2 x3 x8
def bC.lF(N:Nat)(O8:bC.zJ)(ik:bC.fH)(x2:ae)(x3:ag)(x7:Int):Option (Bool):=
 cond (aG x7 (List.length x3.2.2.2.1:Int)) (cond (aI x7 (List.length x3.2.2.2.1)) ((CR N x3 ((List.getD x3.2.2.2.1 x7.toNat aR).1)).bind fun Hy=>cond (!Hy) (some false) (cond (aI x7 (List.length x3.2.2.2.1)) (cond (bR (List.length x2.1:Int) (((List.getD x3.2.2.2.1 x7.toNat aR).2).1)) (some false) (ik x2 x3 (W .i64 (x7+1)))) (none))) (none)) (O8 x2 x3 (0:Int))
def bC.nh(N:Nat):Nat→bC.fH
 |0,_,_,_=>none
 |n+1,x2,x3,x7=>bC.lF N (bC.EN N N) (bC.nh N n) x2 x3 x7
def bC.oI(N:Nat)(qX:bC.fH)(fL:bC.fa)(x2:ae)(x3:ag)(x5:Int):Option (Bool):=
 cond (aG x5 (List.length x3.2.2.1:Int)) (cond (aI x5 (List.length x3.2.2.1)) (cond (ay ((List.getD x3.2.2.1 x5.toNat aR).1) (5:Int)) ((CR N x3 (((List.getD x3.2.2.1 x5.toNat aR).2).1)).bind fun r9=>cond (!r9) (some false) (cond (ay ((List.getD x3.2.2.1 x5.toNat aR).1) (6:Int)) ((ub N x3.1 (((List.getD x3.2.2.1 x5.toNat aR).2).1)).bind fun jF=>cond (ay jF 0) (some false) (fL x2 x3 (W .i64 (x5+1)))) (cond (ay ((List.getD x3.2.2.1 x5.toNat aR).1) (7:Int)) ((ub N x3.1 (((List.getD x3.2.2.1 x5.toNat aR).2).1)).bind fun ma=>cond (ay ma 0) (some false) (fL x2 x3 (W .i64 (x5+1)))) (fL x2 x3 (W .i64 (x5+1)))))) (cond (ay ((List.getD x3.2.2.1 x5.toNat aR).1) (6:Int)) ((ub N x3.1 (((List.getD x3.2.2.1 x5.toNat aR).2).1)).bind fun ss=>cond (ay ss 0) (some false) (fL x2 x3 (W .i64 (x5+1)))) (cond (ay ((List.getD x3.2.2.1 x5.toNat aR).1) (7:Int)) ((ub N x3.1 (((List.getD x3.2.2.1 x5.toNat aR).2).1)).bind fun uX=>cond (ay uX 0) (some false) (fL x2 x3 (W .i64 (x5+1)))) (fL x2 x3 (W .i64 (x5+1)))))) (none)) (qX x2 x3 (0:Int))
def bC.l6(N:Nat):Nat→bC.fa
 |0,_,_,_=>none
 |n+1,x2,x3,x5=>bC.oI N (bC.nh N N) (bC.l6 N n) x2 x3 x5
def bC.b(N:Nat)(pC:bC.fa)(a0:ae)(a1:ag):Option (Bool):=
 (iC N a0).bind fun r1=>cond (!r1) (some false) ((jY N a1.1 a1.2.1).bind fun r2=>cond (!r2) (some false) ((vp N a1.2.2.1).bind fun r3=>cond (!r3) (some false) ((k5 N a1.2.2.2.1).bind fun r4=>cond (!r4) (some false) ((iY N a1.2.2.2.2.2.1).bind fun r5=>cond (!r5) (some false) (cond (!ay (List.length a1.2.2.2.2.1:Int) (List.length a0.1:Int)) (some false) ((kF N a1.2.2.1).bind fun r6=>(JQ N r6).bind fun r7=>cond (!ay r7 0) (some false) (pC a0 a1 (0:Int))))))))
def bC(N:Nat)(a0:ae)(a1:ag):Option (Bool):=bC.b N (bC.l6 N N) a0 a1
abbrev p4.aU:=ah→Int→Int→Int→Option (Int)
def p4.cj(N:Nat)(br:p4.aU)(x0:ah)(x1:Int)(x2:Int)(x7:Int):Option (Int):=
 cond (aG x7 (List.length x0:Int)) (cond (aI x7 (List.length x0)) (cond (ay ((List.getD x0 x7.toNat aR).1) x1) (cond (aI x7 (List.length x0)) (cond (ay (((List.getD x0 x7.toNat aR).2).1) x2) (cond (aI x7 (List.length x0)) (some ((((List.getD x0 x7.toNat aR).2).2).1)) (none)) (br x0 x1 x2 (W .i64 (x7+1)))) (none)) (br x0 x1 x2 (W .i64 (x7+1)))) (none)) (some (0:Int))
def p4.l4(N:Nat):Nat→p4.aU
 |0,_,_,_,_=>none
 |n+1,x0,x1,x2,x7=>p4.cj N (p4.l4 N n) x0 x1 x2 x7
def p4.b(N:Nat)(cT:p4.aU)(a0:ah)(a1:Int)(a2:Int):Option (Int):=
 (vp N a0).bind fun r1=>cond (!r1) (some (0:Int)) (cT a0 a1 a2 (0:Int))
def p4(N:Nat)(a0:ah)(a1:Int)(a2:Int):Option (Int):=p4.b N (p4.l4 N N) a0 a1 a2
def JP(N:Nat)(a0:au)(a1:au):Option au:=
 (Ml N a1).bind fun r1=>(tP N a0 r1).bind fun r2=>some r2
abbrev sq.bg:=ah→Int→av→Int→Option av
def sq.dp(N:Nat)(bb:sq.bg)(x0:ah)(x1:Int)(x5:av)(x6:Int):Option av:=
 cond (aG x6 (List.length x0:Int)) (cond (aI x6 (List.length x0)) (cond (ay ((List.getD x0 x6.toNat aR).1) x1) (cond (aI x6 (List.length x0)) (cond (aI x6 (List.length x0)) (cond (small (List.length x5+List.length ([(((List.getD x0 x6.toNat aR).2).1,((((List.getD x0 x6.toNat aR).2).2).1,()))]))) (bb x0 x1 (x5++([(((List.getD x0 x6.toNat aR).2).1,((((List.getD x0 x6.toNat aR).2).2).1,()))])) (W .i64 (x6+1))) (none)) (none)) (none)) (bb x0 x1 x5 (W .i64 (x6+1)))) (none)) (some x5)
def sq.l5(N:Nat):Nat→sq.bg
 |0,_,_,_,_=>none
 |n+1,x0,x1,x5,x6=>sq.dp N (sq.l5 N n) x0 x1 x5 x6
def sq.b(N:Nat)(dF:sq.bg)(a0:ah)(a1:Int):Option av:=
 (tb N a0).bind fun r1=>cond (!r1) (some ([])) (dF a0 a1 ([]) (0:Int))
def sq(N:Nat)(a0:ah)(a1:Int):Option av:=sq.b N (sq.l5 N N) a0 a1
abbrev eD.cJ:=aW→Int→ah→Int→cE→Int→Option ah
abbrev eD.cf:=aW→Int→ah→Int→Option ah
def eD.lC(N:Nat)(bQ:eD.cf)(cz:eD.cJ)(x0:aW)(x1:Int)(x5:ah)(x6:Int)(x7:cE)(x8:Int):Option ah:=
 cond (aG x8 (List.length x0:Int)) (cond (aI x8 (List.length x0)) (cond (!ay (((List.getD x0 x8.toNat eG).2).1) x1) (cz x0 x1 x5 x6 x7 (W .i64 (x8+1))) (cond (aI x8 (List.length x0)) (cond (!ay ((((List.getD x0 x8.toNat eG).2).2).1) x6) (cz x0 x1 x5 x6 x7 (W .i64 (x8+1))) (cond (aI x8 (List.length x0)) (cond (ay (((((List.getD x0 x8.toNat eG).2).2).2).1) (1:Int)) (cond (aI x8 (List.length x0)) (cz x0 x1 x5 x6 (x7.1,((W .i64 (x7.2.1+((((((List.getD x0 x8.toNat eG).2).2).2).2).1))),x7.2.2)) (W .i64 (x8+1))) (none)) (cond (aI x8 (List.length x0)) (cz x0 x1 x5 x6 (x7.1,(x7.2.1,((W .i64 (x7.2.2.1+((((((List.getD x0 x8.toNat eG).2).2).2).2).1))),x7.2.2.2))) (W .i64 (x8+1))) (none))) (none))) (none))) (none)) (cond (aG 0 x7.2.1) (cond (small (List.length x5+List.length ([x7]))) (bQ x0 x1 (x5++([x7])) (W .i64 (x6+1))) (none)) (cond (aG 0 x7.2.2.1) (cond (small (List.length x5+List.length ([x7]))) (bQ x0 x1 (x5++([x7])) (W .i64 (x6+1))) (none)) (bQ x0 x1 x5 (W .i64 (x6+1)))))
def eD.l7(N:Nat)(bQ:eD.cf):Nat→eD.cJ
 |0,_,_,_,_,_,_=>none
 |n+1,x0,x1,x5,x6,x7,x8=>eD.lC N bQ (eD.l7 N bQ n) x0 x1 x5 x6 x7 x8
def eD.gZ(N:Nat)(nc:eD.cJ)(bQ:eD.cf)(x0:aW)(x1:Int)(x5:ah)(x6:Int):Option ah:=
 cond (aG x6 6) (nc x0 x1 x5 x6 (x6,ca) (0:Int)) (some x5)
def eD.l3(N:Nat):Nat→eD.cf
 |0,_,_,_,_=>none
 |n+1,x0,x1,x5,x6=>eD.gZ N (eD.l7 N (eD.l3 N n) N) (eD.l3 N n) x0 x1 x5 x6
def eD.b(N:Nat)(iI:eD.cf)(a0:aW)(a1:Int):Option ah:=
 iI a0 a1 ([]) (0:Int)
def eD(N:Nat)(a0:aW)(a1:Int):Option ah:=eD.b N (eD.l3 N N) a0 a1
abbrev jt.aU:=av→ae→Int→Option (Bool)
def jt.cj(N:Nat)(br:jt.aU)(x1:av)(x2:ae)(x5:Int):Option (Bool):=
 cond (aG x5 (List.length x1:Int)) (cond (aI x5 (List.length x1)) (cond (aG ((List.getD x1 x5.toNat ca).1) (0:Int)) (some false) (cond (aI x5 (List.length x1)) (cond (bR (List.length x2.1:Int) ((List.getD x1 x5.toNat ca).1)) (some false) (cond (aI x5 (List.length x1)) (cond (ay (((List.getD x1 x5.toNat ca).2).1) (0:Int)) (some false) (cond (aI x5 (List.length x1)) (cond (ay (((List.getD x1 x5.toNat ca).2).1) (-9223372036854775808:Int)) (some false) (cond (aG 0 x5) (cond (aI x5 (List.length x1)) (let v3:Int:=W .i64 (x5-1);cond (aI v3 (List.length x1)) (cond (bR ((List.getD x1 x5.toNat ca).1) ((List.getD x1 v3.toNat ca).1)) (some false) (br x1 x2 (W .i64 (x5+1)))) (none)) (none)) (br x1 x2 (W .i64 (x5+1))))) (none))) (none))) (none))) (none)) (some true)
def jt.l4(N:Nat):Nat→jt.aU
 |0,_,_,_=>none
 |n+1,x1,x2,x5=>jt.cj N (jt.l4 N n) x1 x2 x5
def jt.b(N:Nat)(cT:jt.aU)(a0:ae)(a1:av):Option (Bool):=
 (iC N a0).bind fun r1=>cond (!r1) (some false) (cT a1 a0 (0:Int))
def jt(N:Nat)(a0:ae)(a1:av):Option (Bool):=jt.b N (jt.l4 N N) a0 a1
abbrev lK.bg:=ah→ae→Int→Int→Option (Bool)
def lK.dp(N:Nat)(bb:lK.bg)(x1:ah)(x2:ae)(x5:Int)(x6:Int):Option (Bool):=
 cond (aG x6 (List.length x1:Int)) (cond (aI x6 (List.length x1)) (cond (aG ((List.getD x1 x6.toNat aR).1) (0:Int)) (some false) (cond (bR (List.length x2.1:Int) ((List.getD x1 x6.toNat aR).1)) (some false) (cond (aG (((List.getD x1 x6.toNat aR).2).1) (0:Int)) (some false) (cond (aG x5 (((List.getD x1 x6.toNat aR).2).1)) (some false) (cond (aG ((((List.getD x1 x6.toNat aR).2).2).1) (0:Int)) (some false) (cond (aG x5 ((((List.getD x1 x6.toNat aR).2).2).1)) (some false) (cond (ay (((List.getD x1 x6.toNat aR).2).1) (0:Int)) (cond (ay ((((List.getD x1 x6.toNat aR).2).2).1) (0:Int)) (some false) (cond (aG 0 x6) (let v3:Int:=W .i64 (x6-1);cond (aI v3 (List.length x1)) (cond (bR ((List.getD x1 x6.toNat aR).1) ((List.getD x1 v3.toNat aR).1)) (some false) (bb x1 x2 x5 (W .i64 (x6+1)))) (none)) (bb x1 x2 x5 (W .i64 (x6+1))))) (cond (aG 0 x6) (let v6:Int:=W .i64 (x6-1);cond (aI v6 (List.length x1)) (cond (bR ((List.getD x1 x6.toNat aR).1) ((List.getD x1 v6.toNat aR).1)) (some false) (bb x1 x2 x5 (W .i64 (x6+1)))) (none)) (bb x1 x2 x5 (W .i64 (x6+1))))))))))) (none)) (some true)
def lK.l5(N:Nat):Nat→lK.bg
 |0,_,_,_,_=>none
 |n+1,x1,x2,x5,x6=>lK.dp N (lK.l5 N n) x1 x2 x5 x6
def lK.b(N:Nat)(dF:lK.bg)(a0:ae)(a1:ah):Option (Bool):=
 (iC N a0).bind fun r1=>cond (!r1) (some false) (dF a1 a0 (33000000000:Int) (0:Int))
def lK(N:Nat)(a0:ae)(a1:ah):Option (Bool):=lK.b N (lK.l5 N N) a0 a1
def ND(N:Nat)(a0:au):Option au:=
 (NB N false a0.2.1).bind fun r1=>some r1
def Hu(N:Nat)(a0:au)(a1:au):Option (Int):=
 (JP N a0 a1).bind fun r1=>(JQ N r1).bind fun r2=>some r2
abbrev fv.fH:=ah→Int→au→au→au→au→Int→Option (au×(Int))
abbrev fv.cJ:=av→ah→Int→au→au→au→au→Int→Option (au×(Int))
def fv.lF(N:Nat)(ik:fv.fH)(x2:ah)(x3:Int)(x8:au)(aO:au)(aH:au)(aL:au)(bm:Int):Option (au×(Int)):=
 cond (aG bm (List.length x2:Int)) (cond (aI bm (List.length x2)) (cond (ay ((List.getD x2 bm.toNat aR).1) x3) (cond (aI bm (List.length x2)) ((gf N (((List.getD x2 bm.toNat aR).2).1)).bind fun r8=>cond (aI bm (List.length x2)) ((gf N ((((List.getD x2 bm.toNat aR).2).2).1)).bind fun r9=>ik x2 x3 x8 aO r8 r9 (W .i64 (bm+1))) (none)) (none)) (ik x2 x3 x8 aO aH aL (W .i64 (bm+1)))) (none)) ((tP N aO aH).bind fun ma=>(ND N ma).bind fun nu=>(JP N aO aL).bind fun n8=>(ND N n8).bind fun ss=>(Hu N ss nu).bind fun vI=>cond (aG 0 vI) (some (ss,(0:Int))) (some (nu,(0:Int))))
def fv.nh(N:Nat):Nat→fv.fH
 |0,_,_,_,_,_,_,_=>none
 |n+1,x2,x3,x8,aO,aH,aL,bm=>fv.lF N (fv.nh N n) x2 x3 x8 aO aH aL bm
def fv.lC(N:Nat)(qX:fv.fH)(cz:fv.cJ)(x1:av)(x2:ah)(x3:Int)(x8:au)(aO:au)(aH:au)(aL:au)(bn:Int):Option (au×(Int)):=
 cond (aG bn (List.length x1:Int)) (cond (aI bn (List.length x1)) (cond (ay ((List.getD x1 bn.toNat ca).1) x3) (cond (aI bn (List.length x1)) ((gf N (((List.getD x1 bn.toNat ca).2).1)).bind fun r4=>cz x1 x2 x3 x8 r4 aH aL (W .i64 (bn+1))) (none)) (cz x1 x2 x3 x8 aO aH aL (W .i64 (bn+1)))) (none)) (qX x2 x3 x8 aO aH aL (0:Int))
def fv.l7(N:Nat):Nat→fv.cJ
 |0,_,_,_,_,_,_,_,_=>none
 |n+1,x1,x2,x3,x8,aO,aH,aL,bn=>fv.lC N (fv.nh N N) (fv.l7 N n) x1 x2 x3 x8 aO aH aL bn
def fv.b(N:Nat)(nc:fv.cJ)(a0:ae)(a1:av)(a2:ah)(a3:Int):Option (au×(Int)):=
 (jt N a0 a1).bind fun r1=>cond (!r1) (some ((false,kW),(1:Int))) ((lK N a0 a2).bind fun r2=>cond (!r2) (some ((false,kW),(1:Int))) (cond (aG a3 0) (some ((false,kW),(3:Int))) (cond (bR (List.length a0.1:Int) a3) (some ((false,kW),(3:Int))) (nc a1 a2 a3 (false,kW) (false,kW) (false,kW) (false,kW) (0:Int)))))
def fv(N:Nat)(a0:ae)(a1:av)(a2:ah)(a3:Int):Option (au×(Int)):=fv.b N (fv.l7 N N) a0 a1 a2 a3
abbrev fR.I4:=au→au→au→(List (Int))→Int→Int→Int→Option au
abbrev fR.cJ:=au→au→au→(List (Int))→Int→Int→Int→Option au
abbrev fR.cf:=au→au→au→(List (Int))→Int→Option au
def fR.H7(N:Nat)(bQ:fR.cf)(cz:fR.cJ)(x2:au)(x3:au)(x4:au)(x5:List (Int))(x6:Int)(x7:Int)(x8:Int):Option au:=
 let v7:Int:=W .i64 (x6+x8);cond (aI v7 (List.length x5)) (cond (aI x6 (List.length x2.2.1)) ((QS N x3.2.1 x8).bind fun r8=>let v11:Int:=W .u64 (x7+(W .u64 ((List.getD x5 v7.toNat (0:Int))+(W .u64 ((List.getD x2.2.1 x6.toNat (0:Int))*r8)))));let W2:Int:=W .i64 (x6+x8);cond (aI W2 (List.length x5)) (cond (aG 32 0) (none) (cz x2 x3 x4 (List.set x5 W2.toNat (iV .and .u64 v11 4294967295)) x6 (shr .u64 v11 32) (W .i64 (x8+1)))) (none)) (none)) (none)
def fR.j9(N:Nat)(bQ:fR.cf)(cz:fR.cJ)(x2:au)(x3:au)(x4:au)(x5:List (Int))(x6:Int)(x7:Int)(x8:Int):Option au:=fR.H7 N bQ cz x2 x3 x4 x5 x6 x7 x8
def fR.lC(N:Nat)(zQ:fR.I4)(bQ:fR.cf)(cz:fR.cJ)(x2:au)(x3:au)(x4:au)(x5:List (Int))(x6:Int)(x7:Int)(x8:Int):Option au:=
 cond (aG x8 (List.length x3.2.1:Int)) (zQ x2 x3 x4 x5 x6 x7 x8) (cond (aG 0 x7) (zQ x2 x3 x4 x5 x6 x7 x8) (bQ x2 x3 x4 x5 (W .i64 (x6+1))))
def fR.l7(N:Nat)(bQ:fR.cf):Nat→fR.cJ
 |0,_,_,_,_,_,_,_=>none
 |n+1,x2,x3,x4,x5,x6,x7,x8=>fR.lC N (fR.j9 N bQ (fR.l7 N bQ n)) bQ (fR.l7 N bQ n) x2 x3 x4 x5 x6 x7 x8
def fR.gZ(N:Nat)(nc:fR.cJ)(bQ:fR.cf)(x2:au)(x3:au)(x4:au)(x5:List (Int))(x6:Int):Option au:=
 cond (aG x6 (List.length x2.2.1:Int)) (nc x2 x3 x4 x5 x6 (0:Int) (0:Int)) ((NB N (!(kV .bool x2.1 x3.1)) x5).bind fun uY=>some uY)
def fR.l3(N:Nat):Nat→fR.cf
 |0,_,_,_,_,_=>none
 |n+1,x2,x3,x4,x5,x6=>fR.gZ N (fR.l7 N (fR.l3 N n) N) (fR.l3 N n) x2 x3 x4 x5 x6
def fR.b(N:Nat)(iI:fR.cf)(a0:au)(a1:au):Option au:=
 let v2:Int:=W .i64 ((W .i64 ((List.length a0.2.1:Int)+(List.length a1.2.1:Int)))+1);cond (dS v2 v2) (iI a0 a1 (false,kW) (List.replicate v2.toNat (0:Int)) (0:Int)) (none)
def fR(N:Nat)(a0:au)(a1:au):Option au:=fR.b N (fR.l3 N N) a0 a1
abbrev lL.bg:=av→ah→ae→au→au→Int→Option (au×(Int))
def lL.dp(N:Nat)(bb:lL.bg)(x1:av)(x2:ah)(x3:ae)(x6:au)(x8:au)(x9:Int):Option (au×(Int)):=
 cond (aG x9 (List.length x3.1:Int)) ((fv N x3 x1 x2 x9).bind fun r4=>cond (aI x9 (List.length x3.1)) ((gf N ((((List.getD x3.1 x9.toNat aS).2).2).1)).bind fun r5=>(fR N r4.1 r5).bind fun r6=>(tP N x8 r6).bind fun r7=>bb x1 x2 x3 x6 r7 (W .i64 (x9+1))) (none)) (some (x8,(0:Int)))
def lL.l5(N:Nat):Nat→lL.bg
 |0,_,_,_,_,_,_=>none
 |n+1,x1,x2,x3,x6,x8,x9=>lL.dp N (lL.l5 N n) x1 x2 x3 x6 x8 x9
def lL.b(N:Nat)(dF:lL.bg)(a0:ae)(a1:av)(a2:ah):Option (au×(Int)):=
 (jt N a0 a1).bind fun r1=>cond (!r1) (some ((false,kW),(1:Int))) ((lK N a0 a2).bind fun r2=>cond (!r2) (some ((false,kW),(1:Int))) (dF a1 a2 a0 (false,kW) (false,kW) (0:Int)))
def lL(N:Nat)(a0:ae)(a1:av)(a2:ah):Option (au×(Int)):=lL.b N (lL.l5 N N) a0 a1 a2
def Oy(N:Nat)(a0:ae)(a1:ag)(a2:Int)(a3:aW):Option au:=
 cond (small (List.length de+List.length a1.2.2.2.2.2.1)) (let v1:List ((Int)×((Int)×((Int)×((Int)×((Int)×((Int)×(Unit))))))):=de++a1.2.2.2.2.2.1;cond (small (List.length v1+List.length a3)) ((sq N a1.2.2.2.1 a2).bind fun r3=>(eD N (v1++a3) a2).bind fun r4=>(lL N a0 r3 r4).bind fun r5=>some r5.1) (none)) (none)
def RV(N:Nat)(a0:ae)(a1:ag)(a2:Int)(a3:Int):Option (ag×(Int)):=
 (bC N a0 a1).bind fun r1=>cond (!r1) (some ((bN,(cI,(bq,(bq,(c3,(de,())))))),(1:Int))) (cond (aG a3 1) (some ((bN,(cI,(bq,(bq,(c3,(de,())))))),(1:Int))) ((y3 N a1.2.1 a2).bind fun r2=>cond (!r2.2) (some ((bN,(cI,(bq,(bq,(c3,(de,())))))),(3:Int))) ((ub N a1.1 r2.1.2.1).bind fun r3=>cond (!ay r3 1) (some ((bN,(cI,(bq,(bq,(c3,(de,())))))),(7:Int))) ((p4 N a1.2.2.1 (5:Int) a2).bind fun r4=>(gf N r4).bind fun r5=>(gf N a3).bind fun r6=>(JP N r5 r6).bind fun r7=>(Oy N a0 a1 a2 de).bind fun r8=>(Hu N r7 r8).bind fun r9=>cond (aG r9 0) (some ((bN,(cI,(bq,(bq,(c3,(de,())))))),(10:Int))) ((gf N a3).bind fun jF=>(zC N (5:Int) a2 (1:Int) (0:Int) jF).bind fun kT=>(uw N a1 bq kT).bind fun ma=>some (ma.1,ma.2))))))
def Dm(N:Nat)(a0:aT)(a1:Int):Option (Int):=
 (ub N a0.2.2.1.1 a1).bind fun r1=>some r1
abbrev mQ.fy:=Int→Int→aE→Int→Option (aE×(Int))
def mQ.xR(N:Nat)(dy:mQ.fy)(x1:Int)(x2:Int)(aO:aE)(aH:Int):Option (aE×(Int)):=
 cond (aG aH (List.length aO:Int)) (cond (aI aH (List.length aO)) (cond (ay ((List.getD aO aH.toNat aS).1) x1) (cond (aI aH (List.length aO)) (dy x1 x2 (List.set aO aH.toNat ((List.getD aO aH.toNat aS).1,(((List.getD aO aH.toNat aS).2).1,((((List.getD aO aH.toNat aS).2).2).1,(x2,((((List.getD aO aH.toNat aS).2).2).2).2))))) (W .i64 (aH+1))) (none)) (dy x1 x2 aO (W .i64 (aH+1)))) (none)) (some (aO,(0:Int)))
def mQ.l8(N:Nat):Nat→mQ.fy
 |0,_,_,_,_=>none
 |n+1,x1,x2,aO,aH=>mQ.xR N (mQ.l8 N n) x1 x2 aO aH
def mQ.b(N:Nat)(zR:mQ.fy)(a0:aE)(a1:Int)(a2:Int):Option (aE×(Int)):=
 (iu N a0).bind fun r1=>cond (!r1) (some ([],(1:Int))) (cond (aG a2 0) (some ([],(1:Int))) (cond (aG 1000000000000 a2) (some ([],(1:Int))) ((jI N a0 a1).bind fun r2=>cond (!r2.2) (some ([],(3:Int))) (cond (small (List.length cI+List.length a0)) (zR a1 a2 (cI++a0) (0:Int)) (none)))))
def mQ(N:Nat)(a0:aE)(a1:Int)(a2:Int):Option (aE×(Int)):=mQ.b N (mQ.l8 N N) a0 a1 a2
def RH(N:Nat)(a0:fJ)(a1:Int):Option (au×(Int)):=
 (Ih N a0).bind fun r1=>cond (!r1) (some ((false,kW),(1:Int))) ((xh N a1).bind fun r2=>cond (!r2) (some ((false,kW),(1:Int))) (let v3:Int:=W .i64 (a0.2.2.2.2.2.1-a1);cond (ay a0.2.2.2.1 2) (let v4:Int:=W .i64 (a1-a0.2.2.2.2.2.1);cond (aG v4 0) (some ((false,kW),(0:Int))) ((gf N a0.2.2.2.2.1).bind fun r5=>(gf N v4).bind fun r6=>(fR N r5 r6).bind fun r7=>some (r7,(0:Int)))) (cond (aG v3 0) (some ((false,kW),(0:Int))) ((gf N a0.2.2.2.2.1).bind fun r8=>(gf N v3).bind fun r9=>(fR N r8 r9).bind fun jF=>some (jF,(0:Int))))))
def Oz(N:Nat)(a0:ae)(a1:ag)(a2:fJ):Option (Int):=
 (bC N a0 a1).bind fun r1=>cond (!r1) (some (1:Int)) ((Ih N a2).bind fun r2=>cond (!r2) (some (1:Int)) ((y3 N a1.2.1 a2.2.1).bind fun r3=>cond (!r3.2) (some (3:Int)) ((ub N a1.1 r3.1.2.1).bind fun r4=>cond (!ay r4 1) (some (7:Int)) (cond (bR (List.length a0.1:Int) a2.2.2.1) (some (3:Int)) (cond (small (List.length de+List.length a1.2.2.2.2.2.1)) (let v5:List ((Int)×((Int)×((Int)×((Int)×((Int)×((Int)×(Unit))))))):=de++a1.2.2.2.2.2.1;cond (small (List.length v5+List.length ([a2]))) ((sq N a1.2.2.2.1 a2.2.1).bind fun r7=>(eD N (v5++([a2])) a2.2.1).bind fun r8=>(fv N a0 r7 r8 a2.2.2.1).bind fun r9=>(gf N r3.1.2.2.2.1).bind fun jF=>(Hu N r9.1 jF).bind fun kT=>cond (aG 0 kT) (some (9:Int)) (cond (aI a2.2.2.1 (List.length a1.2.2.2.2.1)) ((RH N a2 (List.getD a1.2.2.2.2.1 a2.2.2.1.toNat (0:Int))).bind fun ma=>(p4 N a1.2.2.1 (5:Int) a2.2.1).bind fun nu=>(gf N nu).bind fun n8=>(JP N n8 ma.1).bind fun ss=>(Oy N a0 a1 a2.2.1 ([a2])).bind fun vI=>(Hu N ss vI).bind fun uX=>cond (aG uX 0) (some (10:Int)) (some (0:Int))) (none))) (none)) (none))))))
def RS(N:Nat)(a0:fJ)(a1:fJ):Option (Bool):=
 cond (!ay a0.2.2.2.2.2.1 a1.2.2.2.2.2.1) (some (kV .bool (aG a1.2.2.2.2.2.1 a0.2.2.2.2.2.1) (ay a0.2.2.2.1 1))) (some (aG a0.1 a1.1))
abbrev db.FZ:=aW→Int→Int→aW→Int→Int→Option aW
abbrev db.kd:=aW→Int→Int→aW→Int→Int→Option aW
abbrev db.bg:=aW→Int→Int→aW→Int→Option aW
def db.zB(N:Nat)(bb:db.bg)(x0:aW)(x1:Int)(x2:Int)(x7:aW)(x8:Int)(x9:Int):Option aW:=
 cond (fB 0 x9 (List.length x7:Int) (List.length x7:Int)) (let v9:List ((Int)×((Int)×((Int)×((Int)×((Int)×((Int)×(Unit))))))):=List.drop (0:Int).toNat (List.take x9.toNat x7);cond (small (List.length v9)) (cond (aI x8 (List.length x0)) (cond (small (List.length v9+List.length ([List.getD x0 x8.toNat eG]))) (let v10:List ((Int)×((Int)×((Int)×((Int)×((Int)×((Int)×(Unit))))))):=v9++([List.getD x0 x8.toNat eG]);cond (fB x9 (List.length x7:Int) (List.length x7:Int) (List.length x7:Int)) (let v11:List ((Int)×((Int)×((Int)×((Int)×((Int)×((Int)×(Unit))))))):=List.drop x9.toNat (List.take (List.length x7:Int).toNat x7);cond (small (List.length v10+List.length v11)) (bb x0 x1 x2 (v10++v11) (W .i64 (x8+1))) (none)) (none)) (none)) (none)) (none)) (none)
def db.Hw(N:Nat)(bb:db.bg)(x0:aW)(x1:Int)(x2:Int)(x7:aW)(x8:Int)(x9:Int):Option aW:=db.zB N bb x0 x1 x2 x7 x8 x9
def db.vl(N:Nat)(wS:db.FZ)(bb:db.bg)(oE:db.kd)(x0:aW)(x1:Int)(x2:Int)(x7:aW)(x8:Int)(x9:Int):Option aW:=
 cond (aG x9 (List.length x7:Int)) (cond (aI x9 (List.length x7)) (cond (aI x8 (List.length x0)) ((RS N (List.getD x7 x9.toNat eG) (List.getD x0 x8.toNat eG)).bind fun r6=>cond (r6) (oE x0 x1 x2 x7 x8 (W .i64 (x9+1))) (wS x0 x1 x2 x7 x8 x9)) (none)) (none)) (wS x0 x1 x2 x7 x8 x9)
def db.l9(N:Nat)(bb:db.bg):Nat→db.kd
 |0,_,_,_,_,_,_=>none
 |n+1,x0,x1,x2,x7,x8,x9=>db.vl N (db.Hw N bb) bb (db.l9 N bb n) x0 x1 x2 x7 x8 x9
def db.dp(N:Nat)(vJ:db.kd)(bb:db.bg)(x0:aW)(x1:Int)(x2:Int)(x7:aW)(x8:Int):Option aW:=
 cond (aG x8 (List.length x0:Int)) (cond (aI x8 (List.length x0)) (cond (!ay ((((List.getD x0 x8.toNat eG).2).2).1) x1) (bb x0 x1 x2 x7 (W .i64 (x8+1))) (cond (aI x8 (List.length x0)) (cond (!ay (((((List.getD x0 x8.toNat eG).2).2).2).1) x2) (bb x0 x1 x2 x7 (W .i64 (x8+1))) (vJ x0 x1 x2 x7 x8 (0:Int))) (none))) (none)) (some x7)
def db.l5(N:Nat):Nat→db.bg
 |0,_,_,_,_,_=>none
 |n+1,x0,x1,x2,x7,x8=>db.dp N (db.l9 N (db.l5 N n) N) (db.l5 N n) x0 x1 x2 x7 x8
def db.b(N:Nat)(dF:db.bg)(a0:aW)(a1:Int)(a2:Int):Option aW:=
 (iY N a0).bind fun r1=>cond (!r1) (some ([])) (dF a0 a1 a2 ([]) (0:Int))
def db(N:Nat)(a0:aW)(a1:Int)(a2:Int):Option aW:=db.b N (db.l5 N N) a0 a1 a2
abbrev bH.m7:=aW→Int→ba→aW→Int→Option (aW×ba×(Int)×(Int))
abbrev bH.aeU:=aW→Int→ba→Option (aW×ba×(Int)×(Int))
abbrev bH.m9:=fJ→aW→Int→ba→aW→Int→Int→Int→Option (aW×ba×(Int)×(Int))
abbrev bH.zS:=fJ→aW→Int→ba→aW→Int→Int→uy→Option (aW×ba×(Int)×(Int))
abbrev bH.Pn:=fJ→aW→Int→ba→aW→Int→Option (aW×ba×(Int)×(Int))
abbrev bH.cJ:=fJ→aW→Int→ba→aW→Int→Option (aW×ba×(Int)×(Int))
def bH.yQ(N:Nat)(m8:bH.m7)(x8:aW)(x9:Int)(aO:ba)(cG:aW)(cV:Int):Option (aW×ba×(Int)×(Int)):=
 cond (aG cV (List.length x8:Int)) (cond (aI cV (List.length x8)) (cond (aG 0 ((((((List.getD x8 cV.toNat eG).2).2).2).2).1)) (cond (aI cV (List.length x8)) (cond (small (List.length cG+List.length ([List.getD x8 cV.toNat eG]))) (m8 x8 x9 aO (cG++([List.getD x8 cV.toNat eG])) (W .i64 (cV+1))) (none)) (none)) (m8 x8 x9 aO cG (W .i64 (cV+1)))) (none)) (some (cG,aO,x9,(0:Int)))
def bH.xN(N:Nat):Nat→bH.m7
 |0,_,_,_,_,_=>none
 |n+1,x8,x9,aO,cG,cV=>bH.yQ N (bH.xN N n) x8 x9 aO cG cV
def bH.Y1(N:Nat)(FT:bH.m7)(x8:aW)(x9:Int)(aO:ba):Option (aW×ba×(Int)×(Int)):=
 FT x8 x9 aO ([]) (0:Int)
def bH.j22(N:Nat)(x8:aW)(x9:Int)(aO:ba):Option (aW×ba×(Int)×(Int)):=bH.Y1 N (bH.xN N N) x8 x9 aO
def bH.uH(N:Nat)(cz:bH.cJ)(uN:bH.m9)(x3:fJ)(x8:aW)(x9:Int)(aO:ba)(aH:aW)(aL:Int)(bn:Int)(bU:Int):Option (aW×ba×(Int)×(Int)):=
 cond (aG bU (List.length x8:Int)) (cond (aI bU (List.length x8)) (cond (aI aL (List.length aH)) (cond (ay ((List.getD x8 bU.toNat eG).1) ((List.getD aH aL.toNat eG).1)) (cond (aI bU (List.length x8)) (cond (aI bU (List.length x8)) (uN x3 (List.set x8 bU.toNat ((List.getD x8 bU.toNat eG).1,(((List.getD x8 bU.toNat eG).2).1,((((List.getD x8 bU.toNat eG).2).2).1,(((((List.getD x8 bU.toNat eG).2).2).2).1,((W .i64 (((((((List.getD x8 bU.toNat eG).2).2).2).2).1)-bn)),(((((List.getD x8 bU.toNat eG).2).2).2).2).2)))))) x9 aO aH aL bn (W .i64 (bU+1))) (none)) (none)) (uN x3 x8 x9 aO aH aL bn (W .i64 (bU+1)))) (none)) (none)) (cz x3 x8 x9 aO aH (W .i64 (aL+1)))
def bH.xr(N:Nat)(cz:bH.cJ):Nat→bH.m9
 |0,_,_,_,_,_,_,_,_=>none
 |n+1,x3,x8,x9,aO,aH,aL,bn,bU=>bH.uH N cz (bH.xr N cz n) x3 x8 x9 aO aH aL bn bU
def bH.s5(N:Nat)(zL:bH.m9)(cz:bH.cJ)(x3:fJ)(x8:aW)(x9:Int)(aO:ba)(aH:aW)(aL:Int)(bn:Int)(bm:uy):Option (aW×ba×(Int)×(Int)):=
 cond (small (List.length aO+List.length ([bm]))) (zL x3 x8 (W .i64 (x9-bn)) (aO++([bm])) aH aL bn (0:Int)) (none)
def bH.AN(N:Nat)(cz:bH.cJ)(x3:fJ)(x8:aW)(x9:Int)(aO:ba)(aH:aW)(aL:Int)(bn:Int)(bm:uy):Option (aW×ba×(Int)×(Int)):=bH.s5 N (bH.xr N cz N) cz x3 x8 x9 aO aH aL bn bm
def bH.IM(N:Nat)(pO:bH.zS)(cz:bH.cJ)(x3:fJ)(x8:aW)(x9:Int)(aO:ba)(aH:aW)(aL:Int):Option (aW×ba×(Int)×(Int)):=
 cond (aI aL (List.length aH)) (cond (ay (((List.getD aH aL.toNat eG).2).1) x3.2.1) (cz x3 x8 x9 aO aH (W .i64 (aL+1))) (cond (aI aL (List.length aH)) (let P1:Int:=mn x9 ((((((List.getD aH aL.toNat eG).2).2).2).2).1);cond (aI aL (List.length aH)) (cond (aI aL (List.length aH)) (cond (ay x3.2.2.2.1 2) (cond (aI aL (List.length aH)) (pO x3 x8 x9 aO aH aL P1 (((List.getD aH aL.toNat eG).2).1,(x3.2.1,(x3.2.2.1,(P1,(((((((List.getD aH aL.toNat eG).2).2).2).2).2).1,())))))) (none)) (pO x3 x8 x9 aO aH aL P1 (x3.2.1,(((List.getD aH aL.toNat eG).2).1,(x3.2.2.1,(P1,(((((((List.getD aH aL.toNat eG).2).2).2).2).2).1,()))))))) (none)) (none)) (none))) (none)
def bH.OM(N:Nat)(cz:bH.cJ)(x3:fJ)(x8:aW)(x9:Int)(aO:ba)(aH:aW)(aL:Int):Option (aW×ba×(Int)×(Int)):=bH.IM N (bH.AN N cz) cz x3 x8 x9 aO aH aL
def bH.lC(N:Nat)(F0:bH.aeU)(zU:bH.Pn)(cz:bH.cJ)(x3:fJ)(x8:aW)(x9:Int)(aO:ba)(aH:aW)(aL:Int):Option (aW×ba×(Int)×(Int)):=
 cond (aG aL (List.length aH:Int)) (cond (aG 0 x9) (cond (ay x3.2.2.2.1 1) (cond (aI aL (List.length aH)) (cond (aG x3.2.2.2.2.2.1 (((((((List.getD aH aL.toNat eG).2).2).2).2).2).1)) (F0 x8 x9 aO) (cond (ay x3.2.2.2.1 2) (cond (aI aL (List.length aH)) (cond (aG (((((((List.getD aH aL.toNat eG).2).2).2).2).2).1) x3.2.2.2.2.2.1) (F0 x8 x9 aO) (zU x3 x8 x9 aO aH aL)) (none)) (zU x3 x8 x9 aO aH aL))) (none)) (cond (ay x3.2.2.2.1 2) (cond (aI aL (List.length aH)) (cond (aG (((((((List.getD aH aL.toNat eG).2).2).2).2).2).1) x3.2.2.2.2.2.1) (F0 x8 x9 aO) (zU x3 x8 x9 aO aH aL)) (none)) (zU x3 x8 x9 aO aH aL))) (F0 x8 x9 aO)) (F0 x8 x9 aO)
def bH.l7(N:Nat):Nat→bH.cJ
 |0,_,_,_,_,_,_=>none
 |n+1,x3,x8,x9,aO,aH,aL=>bH.lC N (bH.j22 N) (bH.OM N (bH.l7 N n)) (bH.l7 N n) x3 x8 x9 aO aH aL
def bH.b(N:Nat)(nc:bH.cJ)(a0:aW)(a1:fJ):Option (aW×ba×(Int)×(Int)):=
 (iY N a0).bind fun r1=>cond (!r1) (some ([],[],(0:Int),(1:Int))) ((Ih N a1).bind fun r2=>cond (!r2) (some ([],[],(0:Int),(1:Int))) (cond (small (List.length de+List.length a0)) ((db N a0 a1.2.2.1 (W .i64 ((3:Int)-a1.2.2.2.1))).bind fun r5=>nc a1 (de++a0) a1.2.2.2.2.1 ([]) r5 (0:Int)) (none)))
def bH(N:Nat)(a0:aW)(a1:fJ):Option (aW×ba×(Int)×(Int)):=bH.b N (bH.l7 N N) a0 a1
def Og(N:Nat)(a0:uy):Option (Bool):=
 cond (bR 0 a0.1) (cond (bR a0.1 24) (cond (bR 0 a0.2.1) (cond (bR a0.2.1 24) (cond (!ay a0.1 a0.2.1) (cond (bR 0 a0.2.2.1) (cond (aG a0.2.2.1 6) (cond (bR 1 a0.2.2.2.1) (cond (bR a0.2.2.2.1 1000000000) ((xh N a0.2.2.2.2.1).bind fun r1=>some r1) (some false)) (some false)) (some false)) (some false)) (some false)) (some false)) (some false)) (some false)) (some false)
def IJ(N:Nat)(a0:Int):Option ((Int)×(Int)):=
 cond (ay a0 0) (some ((2:Int),(0:Int))) (some ((5:Int),a0))
def RE(N:Nat)(a0:uy)(a1:Int):Option (bk×(Int)):=
 (Og N a0).bind fun r1=>cond (!r1) (some ([],(1:Int))) ((xh N a1).bind fun r2=>cond (!r2) (some ([],(1:Int))) ((gf N (W .i64 (a1-a0.2.2.2.2.1))).bind fun r4=>(gf N a0.2.2.2.1).bind fun r5=>(fR N r4 r5).bind fun r6=>(JQ N r6).bind fun r7=>cond (ay r7 0) (some ([],(0:Int))) ((IJ N a0.1).bind fun r8=>(IJ N a0.2.1).bind fun r9=>(Ml N r6).bind fun jF=>some ([(r8.1,(r8.2,(r6,()))),(r9.1,(r9.2,(jF,())))],(0:Int)))))
abbrev fu.nf:=ba→ae→ag→ag→ah→bk→Int→Option (ag×(Int))
abbrev fu.aU:=ba→ae→ag→ag→Int→Option (ag×(Int))
def fu.pW(N:Nat)(nQ:fu.nf)(x2:ba)(x3:ae)(x4:ag)(x6:ag)(x9:ah)(aO:bk)(aH:Int):Option (ag×(Int)):=
 cond (aG aH (List.length x2:Int)) (cond (aI aH (List.length x2)) ((CR N x4 ((List.getD x2 aH.toNat jR).1)).bind fun r6=>cond (!r6) (some ((bN,(cI,(bq,(bq,(c3,(de,())))))),(3:Int))) ((CR N x4 (((List.getD x2 aH.toNat jR).2).1)).bind fun r7=>cond (!r7) (some ((bN,(cI,(bq,(bq,(c3,(de,())))))),(3:Int))) (cond (bR (List.length x3.1:Int) ((((List.getD x2 aH.toNat jR).2).2).1)) (some ((bN,(cI,(bq,(bq,(c3,(de,())))))),(3:Int))) (let v8:Int:=W .i64 (0-(((((List.getD x2 aH.toNat jR).2).2).2).1));cond (small (List.length x9+List.length ([((List.getD x2 aH.toNat jR).1,((((List.getD x2 aH.toNat jR).2).2).1,(((((List.getD x2 aH.toNat jR).2).2).2).1,()))),(((List.getD x2 aH.toNat jR).2).1,((((List.getD x2 aH.toNat jR).2).2).1,(v8,())))]))) (cond (aI ((((List.getD x2 aH.toNat jR).2).2).1) (List.length x4.2.2.2.2.1)) ((RE N (List.getD x2 aH.toNat jR) (List.getD x4.2.2.2.2.1 ((((List.getD x2 aH.toNat jR).2).2).1).toNat (0:Int))).bind fun jF=>cond (small (List.length aO+List.length jF.1)) (nQ x2 x3 x4 x6 (x9++([((List.getD x2 aH.toNat jR).1,((((List.getD x2 aH.toNat jR).2).2).1,(((((List.getD x2 aH.toNat jR).2).2).2).1,()))),(((List.getD x2 aH.toNat jR).2).1,((((List.getD x2 aH.toNat jR).2).2).1,(v8,())))])) (aO++jF.1) (W .i64 (aH+1))) (none)) (none)) (none))))) (none)) ((uw N x4 x9 aO).bind fun nu=>some (nu.1,nu.2))
def fu.s4(N:Nat):Nat→fu.nf
 |0,_,_,_,_,_,_,_=>none
 |n+1,x2,x3,x4,x6,x9,aO,aH=>fu.pW N (fu.s4 N n) x2 x3 x4 x6 x9 aO aH
def fu.cj(N:Nat)(zM:fu.nf)(br:fu.aU)(x2:ba)(x3:ae)(x4:ag)(x6:ag)(x8:Int):Option (ag×(Int)):=
 cond (aG x8 (List.length x2:Int)) (cond (aI x8 (List.length x2)) ((Og N (List.getD x2 x8.toNat jR)).bind fun r3=>cond (!r3) (some ((bN,(cI,(bq,(bq,(c3,(de,())))))),(1:Int))) (br x2 x3 x4 x6 (W .i64 (x8+1)))) (none)) (zM x2 x3 x4 x6 ([]) ([]) (0:Int))
def fu.l4(N:Nat):Nat→fu.aU
 |0,_,_,_,_,_=>none
 |n+1,x2,x3,x4,x6,x8=>fu.cj N (fu.s4 N N) (fu.l4 N n) x2 x3 x4 x6 x8
def fu.b(N:Nat)(cT:fu.aU)(a0:ae)(a1:ag)(a2:ba):Option (ag×(Int)):=
 (bC N a0 a1).bind fun r1=>cond (!r1) (some ((bN,(cI,(bq,(bq,(c3,(de,())))))),(1:Int))) (cond (aG 200 (List.length a2:Int)) (some ((bN,(cI,(bq,(bq,(c3,(de,())))))),(1:Int))) (cT a2 a0 a1 (bN,(cI,(bq,(bq,(c3,(de,())))))) (0:Int)))
def fu(N:Nat)(a0:ae)(a1:ag)(a2:ba):Option (ag×(Int)):=fu.b N (fu.l4 N N) a0 a1 a2
abbrev jb.Pn:=ae→ag→fJ→ag→aW→ba→Int→Option (ag×ba×(Int)×(Int))
abbrev jb.I1:=ae→ag→fJ→ag→Option (ag×ba×(Int)×(Int))
def jb.IM(N:Nat)(x3:ae)(x4:ag)(x5:fJ)(x6:ag)(aL:aW)(bn:ba)(bm:Int):Option (ag×ba×(Int)×(Int)):=
 (fu N x3 x4 bn).bind fun r6=>cond (!ay r6.2 0) (some ((bN,(cI,(bq,(bq,(c3,(de,())))))),xG,(0:Int),r6.2)) (cond (aG 0 bm) (cond (small (List.length aL+List.length ([(x5.1,(x5.2.1,(x5.2.2.1,(x5.2.2.2.1,(bm,x5.2.2.2.2.2)))))]))) (some ((r6.1.1,(r6.1.2.1,(r6.1.2.2.1,(r6.1.2.2.2.1,(r6.1.2.2.2.2.1,((aL++([(x5.1,(x5.2.1,(x5.2.2.1,(x5.2.2.2.1,(bm,x5.2.2.2.2.2)))))])),r6.1.2.2.2.2.2.2)))))),bn,bm,(0:Int))) (none)) (some ((r6.1.1,(r6.1.2.1,(r6.1.2.2.1,(r6.1.2.2.2.1,(r6.1.2.2.2.2.1,(aL,r6.1.2.2.2.2.2.2)))))),bn,bm,(0:Int))))
def jb.OM(N:Nat)(x3:ae)(x4:ag)(x5:fJ)(x6:ag)(aL:aW)(bn:ba)(bm:Int):Option (ag×ba×(Int)×(Int)):=jb.IM N x3 x4 x5 x6 aL bn bm
def jb.H4(N:Nat)(zU:jb.Pn)(x3:ae)(x4:ag)(x5:fJ)(x6:ag):Option (ag×ba×(Int)×(Int)):=
 (bH N x4.2.2.2.2.2.1 x5).bind fun r4=>cond (aG 0 r4.2.2.1) (cond (ay (List.length r4.1:Int) 32) (some ((bN,(cI,(bq,(bq,(c3,(de,())))))),xG,(0:Int),(5:Int))) (zU x3 x4 x5 x6 r4.1 r4.2.1 r4.2.2.1)) (zU x3 x4 x5 x6 r4.1 r4.2.1 r4.2.2.1)
def jb.j7(N:Nat)(x3:ae)(x4:ag)(x5:fJ)(x6:ag):Option (ag×ba×(Int)×(Int)):=jb.H4 N (jb.OM N) x3 x4 x5 x6
def jb.b(N:Nat)(vH:jb.I1)(a0:ae)(a1:ag)(a2:fJ):Option (ag×ba×(Int)×(Int)):=
 (Oz N a0 a1 a2).bind fun r1=>cond (!ay r1 0) (some ((bN,(cI,(bq,(bq,(c3,(de,())))))),xG,(0:Int),r1)) (cond (aG 0 (List.length a1.2.2.2.2.2.1:Int)) (let v2:Int:=W .i64 ((List.length a1.2.2.2.2.2.1:Int)-1);cond (aI v2 (List.length a1.2.2.2.2.2.1)) (cond (bR a2.1 ((List.getD a1.2.2.2.2.2.1 v2.toNat eG).1)) (some ((bN,(cI,(bq,(bq,(c3,(de,())))))),xG,(0:Int),(1:Int))) (vH a0 a1 a2 (bN,(cI,(bq,(bq,(c3,(de,())))))))) (none)) (vH a0 a1 a2 (bN,(cI,(bq,(bq,(c3,(de,()))))))))
def jb(N:Nat)(a0:ae)(a1:ag)(a2:fJ):Option (ag×ba×(Int)×(Int)):=jb.b N (jb.j7 N) a0 a1 a2
abbrev mT.bg:=aW→Int→Int→aW→Int→Option (aW×(Int))
def mT.dp(N:Nat)(bb:mT.bg)(x0:aW)(x1:Int)(x2:Int)(x8:aW)(x9:Int):Option (aW×(Int)):=
 cond (aG x9 (List.length x0:Int)) (cond (aI x9 (List.length x0)) (cond (!ay ((List.getD x0 x9.toNat eG).1) x2) (cond (aI x9 (List.length x0)) (cond (small (List.length x8+List.length ([List.getD x0 x9.toNat eG]))) (bb x0 x1 x2 (x8++([List.getD x0 x9.toNat eG])) (W .i64 (x9+1))) (none)) (none)) (cond (aI x9 (List.length x0)) (cond (!ay (((List.getD x0 x9.toNat eG).2).1) x1) (cond (aI x9 (List.length x0)) (cond (small (List.length x8+List.length ([List.getD x0 x9.toNat eG]))) (bb x0 x1 x2 (x8++([List.getD x0 x9.toNat eG])) (W .i64 (x9+1))) (none)) (none)) (bb x0 x1 x2 x8 (W .i64 (x9+1)))) (none))) (none)) (cond (ay (List.length x8:Int) (List.length x0:Int)) (some ([],(3:Int))) (some (x8,(0:Int))))
def mT.l5(N:Nat):Nat→mT.bg
 |0,_,_,_,_,_=>none
 |n+1,x0,x1,x2,x8,x9=>mT.dp N (mT.l5 N n) x0 x1 x2 x8 x9
def mT.b(N:Nat)(dF:mT.bg)(a0:aW)(a1:Int)(a2:Int):Option (aW×(Int)):=
 (iY N a0).bind fun r1=>cond (!r1) (some ([],(1:Int))) (dF a0 a1 a2 ([]) (0:Int))
def mT(N:Nat)(a0:aW)(a1:Int)(a2:Int):Option (aW×(Int)):=mT.b N (mT.l5 N N) a0 a1 a2
abbrev mU.fa:=ah→Int→bk→au→Int→Option (bk×(Int))
def mU.oI(N:Nat)(fL:mU.fa)(x0:ah)(x1:Int)(aO:bk)(aH:au)(aL:Int):Option (bk×(Int)):=
 cond (aG aL (List.length x0:Int)) (cond (aI aL (List.length x0)) (cond (!ay (((List.getD x0 aL.toNat aR).2).1) x1) (fL x0 x1 aO aH (W .i64 (aL+1))) ((JQ N aH).bind fun r9=>cond (ay r9 0) (fL x0 x1 aO aH (W .i64 (aL+1))) (cond (aI aL (List.length x0)) ((IJ N ((List.getD x0 aL.toNat aR).1)).bind fun kT=>cond (aI aL (List.length x0)) ((gf N ((((List.getD x0 aL.toNat aR).2).2).1)).bind fun ma=>(fR N ma aH).bind fun nu=>cond (small (List.length aO+List.length ([(kT.1,(kT.2,(nu,())))]))) (fL x0 x1 (aO++([(kT.1,(kT.2,(nu,())))])) aH (W .i64 (aL+1))) (none)) (none)) (none)))) (none)) (some (aO,(0:Int)))
def mU.l6(N:Nat):Nat→mU.fa
 |0,_,_,_,_,_=>none
 |n+1,x0,x1,aO,aH,aL=>mU.oI N (mU.l6 N n) x0 x1 aO aH aL
def mU.b(N:Nat)(pC:mU.fa)(a0:ah)(a1:Int)(a2:Int)(a3:Int):Option (bk×(Int)):=
 (tb N a0).bind fun r1=>cond (!r1) (some ([],(1:Int))) ((xh N a2).bind fun r2=>cond (!r2) (some ([],(1:Int))) ((xh N a3).bind fun r3=>cond (!r3) (some ([],(1:Int))) ((gf N a3).bind fun r4=>(gf N a2).bind fun r5=>(JP N r4 r5).bind fun r6=>pC a0 a1 ([]) r6 (0:Int))))
def mU(N:Nat)(a0:ah)(a1:Int)(a2:Int)(a3:Int):Option (bk×(Int)):=mU.b N (mU.l6 N N) a0 a1 a2 a3
def RU(N:Nat)(a0:ae)(a1:ag)(a2:Int)(a3:Int):Option (ag×bk×(Int)):=
 (bC N a0 a1).bind fun r1=>cond (!r1) (some ((bN,(cI,(bq,(bq,(c3,(de,())))))),([]:List ((Int)×((Int)×(((Bool)×((List (Int))×(Unit)))×(Unit))))),(1:Int))) ((xh N a3).bind fun r2=>cond (!r2) (some ((bN,(cI,(bq,(bq,(c3,(de,())))))),([]:List ((Int)×((Int)×(((Bool)×((List (Int))×(Unit)))×(Unit))))),(1:Int))) (cond (aG a2 0) (some ((bN,(cI,(bq,(bq,(c3,(de,())))))),([]:List ((Int)×((Int)×(((Bool)×((List (Int))×(Unit)))×(Unit))))),(3:Int))) (cond (bR (List.length a0.1:Int) a2) (some ((bN,(cI,(bq,(bq,(c3,(de,())))))),([]:List ((Int)×((Int)×(((Bool)×((List (Int))×(Unit)))×(Unit))))),(3:Int))) (cond (aI a2 (List.length a1.2.2.2.2.1)) ((mU N a1.2.2.2.1 a2 (List.getD a1.2.2.2.2.1 a2.toNat (0:Int)) a3).bind fun r3=>(uw N a1 bq r3.1).bind fun r4=>cond (!ay r4.2 0) (some ((bN,(cI,(bq,(bq,(c3,(de,())))))),([]:List ((Int)×((Int)×(((Bool)×((List (Int))×(Unit)))×(Unit))))),r4.2)) (cond (small (List.length c3+List.length a1.2.2.2.2.1)) (let v5:List (Int):=c3++a1.2.2.2.2.1;cond (aI a2 (List.length v5)) (some ((r4.1.1,(r4.1.2.1,(r4.1.2.2.1,(r4.1.2.2.2.1,((List.set v5 a2.toNat a3),r4.1.2.2.2.2.2))))),r3.1,(0:Int))) (none)) (none))) (none)))))
abbrev lM.bT:=av→Int→Option (Bool)
def lM.ec(N:Nat)(cX:lM.bT)(x0:av)(x3:Int):Option (Bool):=
 cond (aG x3 (List.length x0:Int)) (cond (aI x3 (List.length x0)) (cond (aG ((List.getD x0 x3.toNat ca).1) (1:Int)) (some false) (cond (aI x3 (List.length x0)) (cond (aG 24 ((List.getD x0 x3.toNat ca).1)) (some false) (cond (aI x3 (List.length x0)) (cond (ay (((List.getD x0 x3.toNat ca).2).1) (0:Int)) (some false) (cond (aG 0 x3) (cond (aI x3 (List.length x0)) (let v2:Int:=W .i64 (x3-1);cond (aI v2 (List.length x0)) (cond (bR ((List.getD x0 x3.toNat ca).1) ((List.getD x0 v2.toNat ca).1)) (some false) (cX x0 (W .i64 (x3+1)))) (none)) (none)) (cX x0 (W .i64 (x3+1))))) (none))) (none))) (none)) (some true)
def lM.l2(N:Nat):Nat→lM.bT
 |0,_,_=>none
 |n+1,x0,x3=>lM.ec N (lM.l2 N n) x0 x3
def lM.b(N:Nat)(fx:lM.bT)(a0:av):Option (Bool):=
 fx a0 (0:Int)
def lM(N:Nat)(a0:av):Option (Bool):=lM.b N (lM.l2 N N) a0
abbrev c4.qY:=av→bk→av→Int→au→Int→Option (av×(Int))
abbrev c4.kd:=av→bk→av→Int→au→Int→Option (av×(Int))
abbrev c4.bg:=av→bk→av→Int→Option (av×(Int))
def c4.AJ(N:Nat)(bb:c4.bg)(wT:c4.qY)(x0:av)(x1:bk)(x6:av)(x7:Int)(x8:au)(aO:Int):Option (av×(Int)):=
 cond (aG aO (List.length x1:Int)) (cond (aI aO (List.length x1)) (cond (ay ((List.getD x1 aO.toNat ((0:Int),((0:Int),((false,kW),())))).1) (5:Int)) (cond (aI aO (List.length x1)) (cond (ay (((List.getD x1 aO.toNat ((0:Int),((0:Int),((false,kW),())))).2).1) x7) (cond (aI aO (List.length x1)) ((tP N x8 ((((List.getD x1 aO.toNat ((0:Int),((0:Int),((false,kW),())))).2).2).1)).bind fun r8=>wT x0 x1 x6 x7 r8 (W .i64 (aO+1))) (none)) (wT x0 x1 x6 x7 x8 (W .i64 (aO+1)))) (none)) (wT x0 x1 x6 x7 x8 (W .i64 (aO+1)))) (none)) ((qz N x8).bind fun ma=>cond (!ma.2) (some ([],(2:Int))) (cond (!ay ma.1 0) (cond (small (List.length x6+List.length ([(x7,(ma.1,()))]))) (bb x0 x1 (x6++([(x7,(ma.1,()))])) (W .i64 (x7+1))) (none)) (bb x0 x1 x6 (W .i64 (x7+1)))))
def c4.DJ(N:Nat)(bb:c4.bg):Nat→c4.qY
 |0,_,_,_,_,_,_=>none
 |n+1,x0,x1,x6,x7,x8,aO=>c4.AJ N bb (c4.DJ N bb n) x0 x1 x6 x7 x8 aO
def c4.vl(N:Nat)(F1:c4.qY)(bb:c4.bg)(oE:c4.kd)(x0:av)(x1:bk)(x6:av)(x7:Int)(x8:au)(x9:Int):Option (av×(Int)):=
 cond (aG x9 (List.length x0:Int)) (cond (aI x9 (List.length x0)) (cond (ay ((List.getD x0 x9.toNat ca).1) x7) (cond (aI x9 (List.length x0)) ((gf N (((List.getD x0 x9.toNat ca).2).1)).bind fun r4=>oE x0 x1 x6 x7 r4 (W .i64 (x9+1))) (none)) (oE x0 x1 x6 x7 x8 (W .i64 (x9+1)))) (none)) (F1 x0 x1 x6 x7 x8 (0:Int))
def c4.l9(N:Nat)(bb:c4.bg):Nat→c4.kd
 |0,_,_,_,_,_,_=>none
 |n+1,x0,x1,x6,x7,x8,x9=>c4.vl N (c4.DJ N bb N) bb (c4.l9 N bb n) x0 x1 x6 x7 x8 x9
def c4.dp(N:Nat)(vJ:c4.kd)(bb:c4.bg)(x0:av)(x1:bk)(x6:av)(x7:Int):Option (av×(Int)):=
 cond (bR x7 24) (vJ x0 x1 x6 x7 (false,kW) (0:Int)) (some (x6,(0:Int)))
def c4.l5(N:Nat):Nat→c4.bg
 |0,_,_,_,_=>none
 |n+1,x0,x1,x6,x7=>c4.dp N (c4.l9 N (c4.l5 N n) N) (c4.l5 N n) x0 x1 x6 x7
def c4.b(N:Nat)(dF:c4.bg)(a0:av)(a1:bk):Option (av×(Int)):=
 (lM N a0).bind fun r1=>cond (!r1) (some ([],(1:Int))) (dF a0 a1 ([]) (1:Int))
def c4(N:Nat)(a0:av)(a1:bk):Option (av×(Int)):=c4.b N (c4.l5 N N) a0 a1
def LV(N:Nat)(a0:aT)(a1:Int):Option ((Int)×(Bool)):=
 (gf N a0.1).bind fun r1=>(gf N a1).bind fun r2=>(tP N r1 r2).bind fun r3=>(qz N r3).bind fun r4=>some (r4.1,r4.2)
def RP(N:Nat)(a0:Int)(a1:Int):Option ((Int)×(Bool)):=
 cond (ay a0 0) (cond (ay a1 1) (some ((1:Int),true)) (cond (ay a0 1) (cond (ay a1 11) (some ((2:Int),true)) (cond (ay a0 2) (cond (ay a1 12) (some ((1:Int),true)) (cond (ay a0 2) (cond (ay a1 13) (some ((3:Int),true)) (cond (ay a0 3) (cond (ay a1 21) (some ((4:Int),true)) (some ((0:Int),false))) (some ((0:Int),false)))) (cond (ay a0 3) (cond (ay a1 21) (some ((4:Int),true)) (some ((0:Int),false))) (some ((0:Int),false))))) (cond (ay a0 2) (cond (ay a1 13) (some ((3:Int),true)) (cond (ay a0 3) (cond (ay a1 21) (some ((4:Int),true)) (some ((0:Int),false))) (some ((0:Int),false)))) (cond (ay a0 3) (cond (ay a1 21) (some ((4:Int),true)) (some ((0:Int),false))) (some ((0:Int),false)))))) (cond (ay a0 2) (cond (ay a1 12) (some ((1:Int),true)) (cond (ay a0 2) (cond (ay a1 13) (some ((3:Int),true)) (cond (ay a0 3) (cond (ay a1 21) (some ((4:Int),true)) (some ((0:Int),false))) (some ((0:Int),false)))) (cond (ay a0 3) (cond (ay a1 21) (some ((4:Int),true)) (some ((0:Int),false))) (some ((0:Int),false))))) (cond (ay a0 2) (cond (ay a1 13) (some ((3:Int),true)) (cond (ay a0 3) (cond (ay a1 21) (some ((4:Int),true)) (some ((0:Int),false))) (some ((0:Int),false)))) (cond (ay a0 3) (cond (ay a1 21) (some ((4:Int),true)) (some ((0:Int),false))) (some ((0:Int),false))))))) (cond (ay a0 1) (cond (ay a1 11) (some ((2:Int),true)) (cond (ay a0 2) (cond (ay a1 12) (some ((1:Int),true)) (cond (ay a0 2) (cond (ay a1 13) (some ((3:Int),true)) (cond (ay a0 3) (cond (ay a1 21) (some ((4:Int),true)) (some ((0:Int),false))) (some ((0:Int),false)))) (cond (ay a0 3) (cond (ay a1 21) (some ((4:Int),true)) (some ((0:Int),false))) (some ((0:Int),false))))) (cond (ay a0 2) (cond (ay a1 13) (some ((3:Int),true)) (cond (ay a0 3) (cond (ay a1 21) (some ((4:Int),true)) (some ((0:Int),false))) (some ((0:Int),false)))) (cond (ay a0 3) (cond (ay a1 21) (some ((4:Int),true)) (some ((0:Int),false))) (some ((0:Int),false)))))) (cond (ay a0 2) (cond (ay a1 12) (some ((1:Int),true)) (cond (ay a0 2) (cond (ay a1 13) (some ((3:Int),true)) (cond (ay a0 3) (cond (ay a1 21) (some ((4:Int),true)) (some ((0:Int),false))) (some ((0:Int),false)))) (cond (ay a0 3) (cond (ay a1 21) (some ((4:Int),true)) (some ((0:Int),false))) (some ((0:Int),false))))) (cond (ay a0 2) (cond (ay a1 13) (some ((3:Int),true)) (cond (ay a0 3) (cond (ay a1 21) (some ((4:Int),true)) (some ((0:Int),false))) (some ((0:Int),false)))) (cond (ay a0 3) (cond (ay a1 21) (some ((4:Int),true)) (some ((0:Int),false))) (some ((0:Int),false))))))
abbrev kP.nf:=Int→Int→av→Int→Option (av×(Int))
def kP.pW(N:Nat)(nQ:kP.nf)(x1:Int)(x9:Int)(aH:av)(aL:Int):Option (av×(Int)):=
 cond (aG aL (List.length aH:Int)) (cond (aI aL (List.length aH)) (cond (ay ((List.getD aH aL.toNat ca).1) x1) (cond (aI aL (List.length aH)) (nQ x1 x9 (List.set aH aL.toNat ((List.getD aH aL.toNat ca).1,(x9,((List.getD aH aL.toNat ca).2).2))) (W .i64 (aL+1))) (none)) (nQ x1 x9 aH (W .i64 (aL+1)))) (none)) (some (aH,(0:Int)))
def kP.s4(N:Nat):Nat→kP.nf
 |0,_,_,_,_=>none
 |n+1,x1,x9,aH,aL=>kP.pW N (kP.s4 N n) x1 x9 aH aL
def kP.b(N:Nat)(zM:kP.nf)(a0:av)(a1:Int)(a2:Int):Option (av×(Int)):=
 (jG N a0).bind fun r1=>cond (!r1) (some ([],(1:Int))) ((iZ N a0 a1).bind fun r2=>cond (ay r2 0) (some ([],(3:Int))) ((RP N r2 a2).bind fun r3=>cond (!r3.2) (some ([],(8:Int))) (cond (small (List.length bN+List.length a0)) (zM a1 r3.1 (bN++a0) (0:Int)) (none))))
def kP(N:Nat)(a0:av)(a1:Int)(a2:Int):Option (av×(Int)):=kP.b N (kP.s4 N N) a0 a1 a2
abbrev mS.bg:=aE→Int→(List (Int))→Int→Option (List (Int))
def mS.dp(N:Nat)(bb:mS.bg)(x0:aE)(x1:Int)(x5:List (Int))(x6:Int):Option (List (Int)):=
 cond (aG x6 (List.length x0:Int)) (cond (aI x6 (List.length x0)) (cond (ay (((List.getD x0 x6.toNat aS).2).1) x1) (cond (aI x6 (List.length x0)) (cond (small (List.length x5+List.length ([(List.getD x0 x6.toNat aS).1]))) (bb x0 x1 (x5++([(List.getD x0 x6.toNat aS).1])) (W .i64 (x6+1))) (none)) (none)) (bb x0 x1 x5 (W .i64 (x6+1)))) (none)) (some x5)
def mS.l5(N:Nat):Nat→mS.bg
 |0,_,_,_,_=>none
 |n+1,x0,x1,x5,x6=>mS.dp N (mS.l5 N n) x0 x1 x5 x6
def mS.b(N:Nat)(dF:mS.bg)(a0:aE)(a1:Int):Option (List (Int)):=
 (iu N a0).bind fun r1=>cond (!r1) (some ([])) (dF a0 a1 ([]) (0:Int))
def mS(N:Nat)(a0:aE)(a1:Int):Option (List (Int)):=mS.b N (mS.l5 N N) a0 a1
abbrev eS.kd:=aW→(List (Int))→aW→Int→Bool→Int→Option aW
abbrev eS.bg:=aW→(List (Int))→aW→Int→Option aW
def eS.vl(N:Nat)(bb:eS.bg)(oE:eS.kd)(x0:aW)(x1:List (Int))(x5:aW)(x6:Int)(x7:Bool)(x8:Int):Option aW:=
 cond (aG x8 (List.length x1:Int)) (cond (x7) (oE x0 x1 x5 x6 true (W .i64 (x8+1))) (cond (aI x8 (List.length x1)) (cond (aI x6 (List.length x0)) (oE x0 x1 x5 x6 (ay (List.getD x1 x8.toNat (0:Int)) (((List.getD x0 x6.toNat eG).2).1)) (W .i64 (x8+1))) (none)) (none))) (cond (!x7) (cond (aI x6 (List.length x0)) (cond (small (List.length x5+List.length ([List.getD x0 x6.toNat eG]))) (bb x0 x1 (x5++([List.getD x0 x6.toNat eG])) (W .i64 (x6+1))) (none)) (none)) (bb x0 x1 x5 (W .i64 (x6+1))))
def eS.l9(N:Nat)(bb:eS.bg):Nat→eS.kd
 |0,_,_,_,_,_,_=>none
 |n+1,x0,x1,x5,x6,x7,x8=>eS.vl N bb (eS.l9 N bb n) x0 x1 x5 x6 x7 x8
def eS.dp(N:Nat)(vJ:eS.kd)(bb:eS.bg)(x0:aW)(x1:List (Int))(x5:aW)(x6:Int):Option aW:=
 cond (aG x6 (List.length x0:Int)) (vJ x0 x1 x5 x6 false (0:Int)) (some x5)
def eS.l5(N:Nat):Nat→eS.bg
 |0,_,_,_,_=>none
 |n+1,x0,x1,x5,x6=>eS.dp N (eS.l9 N (eS.l5 N n) N) (eS.l5 N n) x0 x1 x5 x6
def eS.b(N:Nat)(dF:eS.bg)(a0:aW)(a1:List (Int)):Option aW:=
 (iY N a0).bind fun r1=>cond (!r1) (some ([])) (dF a0 a1 ([]) (0:Int))
def eS(N:Nat)(a0:aW)(a1:List (Int)):Option aW:=eS.b N (eS.l5 N N) a0 a1
def OK(N:Nat)(a0:ae)(a1:ag)(a2:Int):Option (ag×(Int)):=
 (bC N a0 a1).bind fun r1=>cond (!r1) (some ((bN,(cI,(bq,(bq,(c3,(de,())))))),(1:Int))) ((ub N a1.1 a2).bind fun r2=>cond (ay r2 0) (some ((bN,(cI,(bq,(bq,(c3,(de,())))))),(3:Int))) ((mS N a1.2.1 a2).bind fun r3=>(eS N a1.2.2.2.2.2.1 r3).bind fun r4=>some ((a1.1,(a1.2.1,(a1.2.2.1,(a1.2.2.2.1,(a1.2.2.2.2.1,(r4,a1.2.2.2.2.2.2)))))),(0:Int))))
def Ze(N:Nat)(a0:bS):Option (Bool):=
 cond (bR 1 a0.1) (cond (bR a0.1 1099511627776) (cond (bR 1 a0.2.1) (cond (bR a0.2.1 1099511627776) (cond (bR 1 a0.2.2.1) (cond (bR a0.2.2.1 12) (cond (bR (-1152921504606846976) a0.2.2.2.1) (some (bR a0.2.2.2.1 1152921504606846976)) (some false)) (some false)) (some false)) (some false)) (some false)) (some false)) (some false)
abbrev dH.kd:=aE→Int→Int→Option (Bool)
abbrev dH.I2:=aE→Int→Option (Bool)
abbrev dH.aU:=aE→Int→Option (Bool)
def dH.vl(N:Nat)(br:dH.aU)(oE:dH.kd)(x0:aE)(x3:Int)(x4:Int):Option (Bool):=
 cond (aG x4 x3) (cond (aI x4 (List.length x0)) (cond (aI x3 (List.length x0)) (cond (ay ((((List.getD x0 x4.toNat aS).2).2).1) ((((List.getD x0 x3.toNat aS).2).2).1)) (cond (aI x4 (List.length x0)) (cond (aI x3 (List.length x0)) (cond (ay (((List.getD x0 x4.toNat aS).2).1) (((List.getD x0 x3.toNat aS).2).1)) (some false) (oE x0 x3 (W .i64 (x4+1)))) (none)) (none)) (oE x0 x3 (W .i64 (x4+1)))) (none)) (none)) (br x0 (W .i64 (x3+1)))
def dH.l9(N:Nat)(br:dH.aU):Nat→dH.kd
 |0,_,_,_=>none
 |n+1,x0,x3,x4=>dH.vl N br (dH.l9 N br n) x0 x3 x4
def dH.IC(N:Nat)(vJ:dH.kd)(br:dH.aU)(x0:aE)(x3:Int):Option (Bool):=
 vJ x0 x3 (0:Int)
def dH.j8(N:Nat)(br:dH.aU)(x0:aE)(x3:Int):Option (Bool):=dH.IC N (dH.l9 N br N) br x0 x3
def dH.cj(N:Nat)(zK:dH.I2)(br:dH.aU)(x0:aE)(x3:Int):Option (Bool):=
 cond (aG x3 (List.length x0:Int)) (cond (aI x3 (List.length x0)) ((Ze N (List.getD x0 x3.toNat aS)).bind fun r2=>cond (!r2) (some false) (cond (aG 0 x3) (cond (aI x3 (List.length x0)) (let v3:Int:=W .i64 (x3-1);cond (aI v3 (List.length x0)) (cond (bR ((List.getD x0 x3.toNat aS).1) ((List.getD x0 v3.toNat aS).1)) (some false) (zK x0 x3)) (none)) (none)) (zK x0 x3))) (none)) (some true)
def dH.l4(N:Nat):Nat→dH.aU
 |0,_,_=>none
 |n+1,x0,x3=>dH.cj N (dH.j8 N (dH.l4 N n)) (dH.l4 N n) x0 x3
def dH.b(N:Nat)(cT:dH.aU)(a0:aE):Option (Bool):=
 cond (aG 40 (List.length a0:Int)) (some false) (cT a0 (0:Int))
def dH(N:Nat)(a0:aE):Option (Bool):=dH.b N (dH.l4 N N) a0
abbrev pX.bg:=aE→Int→aE→Int→Option aE
def pX.dp(N:Nat)(bb:pX.bg)(x0:aE)(x1:Int)(x5:aE)(x6:Int):Option aE:=
 cond (aG x6 (List.length x0:Int)) (cond (aI x6 (List.length x0)) (cond (!ay ((((List.getD x0 x6.toNat aS).2).2).1) x1) (cond (aI x6 (List.length x0)) (cond (small (List.length x5+List.length ([List.getD x0 x6.toNat aS]))) (bb x0 x1 (x5++([List.getD x0 x6.toNat aS])) (W .i64 (x6+1))) (none)) (none)) (bb x0 x1 x5 (W .i64 (x6+1)))) (none)) (some x5)
def pX.l5(N:Nat):Nat→pX.bg
 |0,_,_,_,_=>none
 |n+1,x0,x1,x5,x6=>pX.dp N (pX.l5 N n) x0 x1 x5 x6
def pX.b(N:Nat)(dF:pX.bg)(a0:aE)(a1:Int):Option aE:=
 (dH N a0).bind fun r1=>cond (!r1) (some ([])) (dF a0 a1 ([]) (0:Int))
def pX(N:Nat)(a0:aE)(a1:Int):Option aE:=pX.b N (pX.l5 N N) a0 a1
def R4(N:Nat)(a0:aT)(a1:Int):Option (Bool):=
 cond (ay a1 14) (cond (ay a0.2.2.2.1.2.1 1) (some (aG a0.1 a0.2.2.2.1.2.2.1)) (some false)) (cond (ay a1 15) (cond (ay a0.2.2.2.1.2.1 1) (some (bR a0.2.2.2.1.2.2.1 a0.1)) (some false)) (cond (ay a1 19) (cond (ay a0.2.2.2.1.2.1 3) (some (aG a0.1 a0.2.2.2.1.2.2.1)) (some false)) (cond (ay a1 20) (cond (ay a0.2.2.2.1.2.1 3) (some (bR a0.2.2.2.1.2.2.1 a0.1)) (some false)) (some (ay a0.2.2.2.1.2.1 2)))))
def Dh(N:Nat)(a0:ag)(a1:Int):Option (Int):=
 (ub N a0.1 a1).bind fun r1=>some r1
abbrev ld.bg:=av→Bool→ae→au→au→Int→Option (au×(Int))
def ld.dp(N:Nat)(bb:ld.bg)(x1:av)(x2:Bool)(x3:ae)(x6:au)(x8:au)(x9:Int):Option (au×(Int)):=
 cond (aG x9 (List.length x1:Int)) (cond (aI x9 (List.length x1)) (cond (aI ((List.getD x1 x9.toNat ca).1) (List.length x3.1)) (cond (x2) (cond (aI x9 (List.length x1)) (cond (aI ((List.getD x1 x9.toNat ca).1) (List.length x3.1)) (cond (aI x9 (List.length x1)) ((gf N (((List.getD x1 x9.toNat ca).2).1)).bind fun r3=>(ND N r3).bind fun r4=>(gf N (((((List.getD x3.1 ((List.getD x1 x9.toNat ca).1).toNat aS).2).2).2).1)).bind fun r5=>(fR N r4 r5).bind fun r6=>(tP N x8 r6).bind fun r7=>bb x1 x2 x3 x6 r7 (W .i64 (x9+1))) (none)) (none)) (none)) (cond (aI x9 (List.length x1)) ((gf N (((List.getD x1 x9.toNat ca).2).1)).bind fun r9=>(ND N r9).bind fun jF=>(gf N ((((List.getD x3.1 ((List.getD x1 x9.toNat ca).1).toNat aS).2).2).1)).bind fun kT=>(fR N jF kT).bind fun ma=>(tP N x8 ma).bind fun nu=>bb x1 x2 x3 x6 nu (W .i64 (x9+1))) (none))) (none)) (none)) (some (x8,(0:Int)))
def ld.l5(N:Nat):Nat→ld.bg
 |0,_,_,_,_,_,_=>none
 |n+1,x1,x2,x3,x6,x8,x9=>ld.dp N (ld.l5 N n) x1 x2 x3 x6 x8 x9
def ld.b(N:Nat)(dF:ld.bg)(a0:ae)(a1:av)(a2:Bool):Option (au×(Int)):=
 (jt N a0 a1).bind fun r1=>cond (!r1) (some ((false,kW),(1:Int))) (dF a1 a2 a0 (false,kW) (false,kW) (0:Int))
def ld(N:Nat)(a0:ae)(a1:av)(a2:Bool):Option (au×(Int)):=ld.b N (ld.l5 N N) a0 a1 a2
def Y5(N:Nat)(a0:ae)(a1:av):Option (au×(Int)):=
 (ld N a0 a1 false).bind fun r1=>some (r1.1,r1.2)
def IN(N:Nat)(a0:ag)(a1:Int):Option (Int):=
 (p4 N a0.2.2.1 (5:Int) a1).bind fun r1=>some r1
def RX(N:Nat)(a0:ae)(a1:ag)(a2:Int)(a3:Int)(a4:Int):Option (Int):=
 (bC N a0 a1).bind fun r1=>cond (!r1) (some (1:Int)) ((y3 N a1.2.1 a4).bind fun r2=>cond (!r2.2) (some (3:Int)) ((Dh N a1 a2).bind fun r3=>cond (ay r3 0) (some (3:Int)) ((Dh N a1 a3).bind fun r4=>cond (ay r4 0) (some (3:Int)) (cond (!ay r2.1.2.1 a2) (some (8:Int)) (cond (!ay r2.1.2.2.1 2) (some (8:Int)) ((Dh N a1 a3).bind fun r5=>cond (!ay r5 1) (some (7:Int)) ((sq N a1.2.2.2.1 a4).bind fun r6=>(Y5 N a0 r6).bind fun r7=>(IN N a1 a4).bind fun r8=>(gf N r8).bind fun r9=>(Hu N r9 r7.1).bind fun jF=>cond (aG jF 0) (some (10:Int)) (some (0:Int)))))))))
abbrev mR.dP:=Int→Int→aE→Int→Option (aE×(Int))
def mR.j2(N:Nat)(fi:mR.dP)(x2:Int)(x3:Int)(bn:aE)(bm:Int):Option (aE×(Int)):=
 cond (aG bm (List.length bn:Int)) (cond (aI bm (List.length bn)) (cond (ay ((List.getD bn bm.toNat aS).1) x2) (cond (aI bm (List.length bn)) (fi x2 x3 (List.set bn bm.toNat ((List.getD bn bm.toNat aS).1,(x3,((List.getD bn bm.toNat aS).2).2))) (W .i64 (bm+1))) (none)) (fi x2 x3 bn (W .i64 (bm+1)))) (none)) (some (bn,(0:Int)))
def mR.lH(N:Nat):Nat→mR.dP
 |0,_,_,_,_=>none
 |n+1,x2,x3,bn,bm=>mR.j2 N (mR.lH N n) x2 x3 bn bm
def mR.b(N:Nat)(oD:mR.dP)(a0:av)(a1:aE)(a2:Int)(a3:Int):Option (aE×(Int)):=
 (jY N a0 a1).bind fun r1=>cond (!r1) (some ([],(1:Int))) ((jI N a1 a2).bind fun r2=>(iZ N a0 a3).bind fun r3=>cond (!r2.2) (some ([],(3:Int))) (cond (ay r3 0) (some ([],(3:Int))) (cond (!ay r2.1.2.2.1 2) (some ([],(8:Int))) (cond (!ay r3 1) (some ([],(7:Int))) (cond (small (List.length cI+List.length a1)) (oD a2 a3 (cI++a1) (0:Int)) (none))))))
def mR(N:Nat)(a0:av)(a1:aE)(a2:Int)(a3:Int):Option (aE×(Int)):=mR.b N (mR.lH N N) a0 a1 a2 a3
def RW(N:Nat)(a0:ae)(a1:ag)(a2:Int)(a3:Int)(a4:Int):Option (ag×(Int)):=
 (RX N a0 a1 a2 a3 a4).bind fun r1=>cond (!ay r1 0) (some ((bN,(cI,(bq,(bq,(c3,(de,())))))),r1)) ((mR N a1.1 a1.2.1 a4 a3).bind fun r2=>cond (!ay r2.2 0) (some ((bN,(cI,(bq,(bq,(c3,(de,())))))),r2.2)) (some ((a1.1,(r2.1,a1.2.2)),(0:Int))))
def OR(N:Nat)(a0:ae)(a1:av):Option (au×(Int)):=
 (ld N a0 a1 true).bind fun r1=>some (r1.1,r1.2)
def R3(N:Nat)(a0:ae)(a1:ag)(a2:Int):Option ((Int)×(Int)):=
 (bC N a0 a1).bind fun r1=>cond (!r1) (some ((0:Int),(1:Int))) ((y3 N a1.2.1 a2).bind fun r2=>cond (!r2.2) (some ((0:Int),(3:Int))) ((sq N a1.2.2.2.1 a2).bind fun r3=>(OR N a0 r3).bind fun r4=>(IN N a1 a2).bind fun r5=>cond (bR r5 0) (some ((0:Int),(0:Int))) ((qz N r4.1).bind fun r6=>cond (r6.2) (cond (aG r6.1 r5) (some (r6.1,(0:Int))) (some (r5,(0:Int)))) (some (r5,(0:Int))))))
abbrev lO.bg:=ah→Int→Int→ah→Int→Option ah
def lO.dp(N:Nat)(bb:lO.bg)(x0:ah)(x1:Int)(x2:Int)(x7:ah)(x8:Int):Option ah:=
 cond (aG x8 (List.length x0:Int)) (cond (aI x8 (List.length x0)) (cond (ay ((List.getD x0 x8.toNat aR).1) x1) (cond (aI x8 (List.length x0)) (cond (aI x8 (List.length x0)) (let v3:Int:=W .i64 (0-((((List.getD x0 x8.toNat aR).2).2).1));cond (aI x8 (List.length x0)) (cond (aI x8 (List.length x0)) (cond (small (List.length x7+List.length ([(x1,(((List.getD x0 x8.toNat aR).2).1,(v3,()))),(x2,(((List.getD x0 x8.toNat aR).2).1,((((List.getD x0 x8.toNat aR).2).2).1,())))]))) (bb x0 x1 x2 (x7++([(x1,(((List.getD x0 x8.toNat aR).2).1,(v3,()))),(x2,(((List.getD x0 x8.toNat aR).2).1,((((List.getD x0 x8.toNat aR).2).2).1,())))])) (W .i64 (x8+1))) (none)) (none)) (none)) (none)) (none)) (bb x0 x1 x2 x7 (W .i64 (x8+1)))) (none)) (some x7)
def lO.l5(N:Nat):Nat→lO.bg
 |0,_,_,_,_,_=>none
 |n+1,x0,x1,x2,x7,x8=>lO.dp N (lO.l5 N n) x0 x1 x2 x7 x8
def lO.b(N:Nat)(dF:lO.bg)(a0:ah)(a1:Int)(a2:Int):Option ah:=
 (tb N a0).bind fun r1=>cond (!r1) (some ([])) (cond (ay a1 a2) (some ([])) (cond (aG a1 0) (some ([])) (cond (aG 24 a1) (some ([])) (cond (aG a2 0) (some ([])) (cond (aG 24 a2) (some ([])) (dF a0 a1 a2 ([]) (0:Int)))))))
def lO(N:Nat)(a0:ah)(a1:Int)(a2:Int):Option ah:=lO.b N (lO.l5 N N) a0 a1 a2
abbrev fG.zS:=Int→ae→ag→ag→ah→bk→Int→bS→Option (ag×(Int))
abbrev fG.fy:=Int→ae→ag→ag→ah→bk→Int→Option (ag×(Int))
def fG.s5(N:Nat)(dy:fG.fy)(x2:Int)(x3:ae)(x4:ag)(x6:ag)(x8:ah)(x9:bk)(aO:Int)(aH:bS):Option (ag×(Int)):=
 (IN N x4 aH.1).bind fun jF=>cond (aG jF 0) ((gf N jF).bind fun kT=>(Ml N kT).bind fun ma=>(zC N (2:Int) (0:Int) (5:Int) aH.1 ma).bind fun nu=>cond (small (List.length x9+List.length nu)) ((lO N x4.2.2.2.1 aH.1 (0:Int)).bind fun ss=>cond (small (List.length x8+List.length ss)) (dy x2 x3 x4 x6 (x8++ss) (x9++nu) (W .i64 (aO+1))) (none)) (none)) ((lO N x4.2.2.2.1 aH.1 (0:Int)).bind fun uY=>cond (small (List.length x8+List.length uY)) (dy x2 x3 x4 x6 (x8++uY) x9 (W .i64 (aO+1))) (none))
def fG.AN(N:Nat)(dy:fG.fy)(x2:Int)(x3:ae)(x4:ag)(x6:ag)(x8:ah)(x9:bk)(aO:Int)(aH:bS):Option (ag×(Int)):=fG.s5 N dy x2 x3 x4 x6 x8 x9 aO aH
def fG.xR(N:Nat)(pO:fG.zS)(dy:fG.fy)(x2:Int)(x3:ae)(x4:ag)(x6:ag)(x8:ah)(x9:bk)(aO:Int):Option (ag×(Int)):=
 cond (aG aO (List.length x4.2.1:Int)) (cond (aI aO (List.length x4.2.1)) (cond (!ay (((List.getD x4.2.1 aO.toNat aS).2).1) x2) (dy x2 x3 x4 x6 x8 x9 (W .i64 (aO+1))) (cond (ay ((((List.getD x4.2.1 aO.toNat aS).2).2).1) (2:Int)) ((R3 N x3 x4 ((List.getD x4.2.1 aO.toNat aS).1)).bind fun r5=>(gf N r5.1).bind fun r6=>(zC N (5:Int) ((List.getD x4.2.1 aO.toNat aS).1) (2:Int) (0:Int) r6).bind fun r7=>cond (small (List.length x9+List.length r7)) (pO x2 x3 x4 x6 x8 (x9++r7) aO (List.getD x4.2.1 aO.toNat aS)) (none)) (pO x2 x3 x4 x6 x8 x9 aO (List.getD x4.2.1 aO.toNat aS)))) (none)) ((uw N x4 x8 x9).bind fun Hy=>some (Hy.1,Hy.2))
def fG.l8(N:Nat):Nat→fG.fy
 |0,_,_,_,_,_,_,_=>none
 |n+1,x2,x3,x4,x6,x8,x9,aO=>fG.xR N (fG.AN N (fG.l8 N n)) (fG.l8 N n) x2 x3 x4 x6 x8 x9 aO
def fG.b(N:Nat)(zR:fG.fy)(a0:ae)(a1:ag)(a2:Int):Option (ag×(Int)):=
 (bC N a0 a1).bind fun r1=>cond (!r1) (some ((bN,(cI,(bq,(bq,(c3,(de,())))))),(1:Int))) ((Dh N a1 a2).bind fun r2=>cond (ay r2 0) (some ((bN,(cI,(bq,(bq,(c3,(de,())))))),(3:Int))) (zR a2 a0 a1 (bN,(cI,(bq,(bq,(c3,(de,())))))) ([]) ([]) (0:Int)))
def fG(N:Nat)(a0:ae)(a1:ag)(a2:Int):Option (ag×(Int)):=fG.b N (fG.l8 N N) a0 a1 a2
abbrev wF.aU:=ah→Int→Int→Int→Option (Int)
def wF.cj(N:Nat)(br:wF.aU)(x0:ah)(x1:Int)(x2:Int)(x7:Int):Option (Int):=
 cond (aG x7 (List.length x0:Int)) (cond (aI x7 (List.length x0)) (cond (ay ((List.getD x0 x7.toNat aR).1) x1) (cond (aI x7 (List.length x0)) (cond (ay (((List.getD x0 x7.toNat aR).2).1) x2) (cond (aI x7 (List.length x0)) (some ((((List.getD x0 x7.toNat aR).2).2).1)) (none)) (br x0 x1 x2 (W .i64 (x7+1)))) (none)) (br x0 x1 x2 (W .i64 (x7+1)))) (none)) (some (0:Int))
def wF.l4(N:Nat):Nat→wF.aU
 |0,_,_,_,_=>none
 |n+1,x0,x1,x2,x7=>wF.cj N (wF.l4 N n) x0 x1 x2 x7
def wF.b(N:Nat)(cT:wF.aU)(a0:ah)(a1:Int)(a2:Int):Option (Int):=
 (tb N a0).bind fun r1=>cond (!r1) (some (0:Int)) (cT a0 a1 a2 (0:Int))
def wF(N:Nat)(a0:ah)(a1:Int)(a2:Int):Option (Int):=wF.b N (wF.l4 N N) a0 a1 a2
abbrev mO.bg:=ae→ag→kO→Int→Option (kO×(Int))
def mO.dp(N:Nat)(bb:mO.bg)(x2:ae)(x3:ag)(x6:kO)(x7:Int):Option (kO×(Int)):=
 cond (aG x7 (List.length x2.1:Int)) (cond (aI x7 (List.length x2.1)) (cond (aI ((List.getD x2.1 x7.toNat aS).1) (List.length x6)) ((wF N x3.2.2.2.1 (0:Int) x7).bind fun r4=>(gf N r4).bind fun r5=>cond (aI x7 (List.length x3.2.2.2.2.1)) ((gf N (List.getD x3.2.2.2.2.1 x7.toNat (0:Int))).bind fun r6=>(fR N r5 r6).bind fun r7=>(tP N (List.getD x6 ((List.getD x2.1 x7.toNat aS).1).toNat (false,kW)) r7).bind fun r8=>cond (aI ((List.getD x2.1 x7.toNat aS).1) (List.length x6)) (bb x2 x3 (List.set x6 ((List.getD x2.1 x7.toNat aS).1).toNat r8) (W .i64 (x7+1))) (none)) (none)) (none)) (none)) (some (x6,(0:Int)))
def mO.l5(N:Nat):Nat→mO.bg
 |0,_,_,_,_=>none
 |n+1,x2,x3,x6,x7=>mO.dp N (mO.l5 N n) x2 x3 x6 x7
def mO.b(N:Nat)(dF:mO.bg)(a0:ae)(a1:ag):Option (kO×(Int)):=
 (bC N a0 a1).bind fun r1=>cond (!r1) (some ([],(1:Int))) (cond (dS 4 4) (dF a0 a1 (List.replicate (4:Int).toNat (false,kW)) (0:Int)) (none))
def mO(N:Nat)(a0:ae)(a1:ag):Option (kO×(Int)):=mO.b N (mO.l5 N N) a0 a1
abbrev wG.bg:=Int→ae→(List (Int))→Int→Option (List (Int))
def wG.dp(N:Nat)(bb:wG.bg)(x1:Int)(x2:ae)(x5:List (Int))(x6:Int):Option (List (Int)):=
 cond (aG x6 (List.length x2.1:Int)) (cond (aI x6 (List.length x2.1)) (cond (ay ((List.getD x2.1 x6.toNat aS).1) x1) (cond (small (List.length x5+List.length ([x6]))) (bb x1 x2 (x5++([x6])) (W .i64 (x6+1))) (none)) (bb x1 x2 x5 (W .i64 (x6+1)))) (none)) (some x5)
def wG.l5(N:Nat):Nat→wG.bg
 |0,_,_,_,_=>none
 |n+1,x1,x2,x5,x6=>wG.dp N (wG.l5 N n) x1 x2 x5 x6
def wG.b(N:Nat)(dF:wG.bg)(a0:ae)(a1:Int):Option (List (Int)):=
 (iC N a0).bind fun r1=>cond (!r1) (some ([])) (dF a1 a0 ([]) (0:Int))
def wG(N:Nat)(a0:ae)(a1:Int):Option (List (Int)):=wG.b N (wG.l5 N N) a0 a1
abbrev k1.aU:=(List (Int))→(List (Int))→Int→Int→Option ((List (Int))×(Int))
def k1.cj(N:Nat)(br:k1.aU)(x0:List (Int))(x4:List (Int))(x5:Int)(x6:Int):Option ((List (Int))×(Int)):=
 cond (bR 0 x6) (cond (aG 32 0) (none) (cond (aI x6 (List.length x0)) (let v5:Int:=iV .or .u64 (W .u64 (shl .u64 x5 32)) (List.getD x0 x6.toNat (0:Int));cond (aG 1 0) (none) (cond (aI x6 (List.length x4)) (br x0 (List.set x4 x6.toNat (shr .u64 v5 1)) (iV .and .u64 v5 1) (W .i64 (x6-1))) (none))) (none))) ((jW N x4).bind fun jF=>some (jF,x5))
def k1.l4(N:Nat):Nat→k1.aU
 |0,_,_,_,_=>none
 |n+1,x0,x4,x5,x6=>k1.cj N (k1.l4 N n) x0 x4 x5 x6
def k1.b(N:Nat)(cT:k1.aU)(a0:List (Int)):Option ((List (Int))×(Int)):=
 cond (dS (List.length a0:Int) (List.length a0:Int)) (cT a0 (List.replicate (List.length a0:Int).toNat (0:Int)) (0:Int) (W .i64 ((List.length a0:Int)-1))) (none)
def k1(N:Nat)(a0:List (Int)):Option ((List (Int))×(Int)):=k1.b N (k1.l4 N N) a0
abbrev eQ.kd:=au→au→au→au→(List (Int))→au→au→Int→Option (au×au)
abbrev eQ.cf:=au→au→au→au→(List (Int))→(List (Int))→Option (au×au)
def eQ.vl(N:Nat)(oE:eQ.kd)(x2:au)(x3:au)(x4:au)(x5:au)(x6:List (Int))(aO:au)(aH:au)(aL:Int):Option (au×au):=
 cond (bR 0 aL) ((tP N aO aO).bind fun r6=>(tP N aH aH).bind fun r7=>cond (aI aL (List.length x6)) (cond (ay (List.getD x6 aL.toNat (0:Int)) (1:Int)) ((gf N (1:Int)).bind fun r8=>(tP N r7 r8).bind fun r9=>(Hu N r9 x3).bind fun jF=>cond (bR 0 jF) ((JP N r9 x3).bind fun kT=>(gf N (1:Int)).bind fun ma=>(tP N r6 ma).bind fun nu=>oE x2 x3 x4 x5 x6 nu kT (W .i64 (aL-1))) (oE x2 x3 x4 x5 x6 r6 r9 (W .i64 (aL-1)))) ((Hu N r7 x3).bind fun vI=>cond (bR 0 vI) ((JP N r7 x3).bind fun uX=>(gf N (1:Int)).bind fun uY=>(tP N r6 uY).bind fun F2=>oE x2 x3 x4 x5 x6 F2 uX (W .i64 (aL-1))) (oE x2 x3 x4 x5 x6 r6 r7 (W .i64 (aL-1))))) (none)) (cond (!x2.1) (some (aO,aH)) ((JQ N aH).bind fun HA=>cond (ay HA 0) ((Ml N aO).bind fun zG=>some (zG,aH)) ((Ml N aO).bind fun DM=>(gf N (1:Int)).bind fun DN=>(JP N DM DN).bind fun wR=>(JP N x3 aH).bind fun L7=>some (wR,L7))))
def eQ.l9(N:Nat):Nat→eQ.kd
 |0,_,_,_,_,_,_,_,_=>none
 |n+1,x2,x3,x4,x5,x6,aO,aH,aL=>eQ.vl N (eQ.l9 N n) x2 x3 x4 x5 x6 aO aH aL
def eQ.gZ(N:Nat)(vJ:eQ.kd)(bQ:eQ.cf)(x2:au)(x3:au)(x4:au)(x5:au)(x6:List (Int))(x7:List (Int)):Option (au×au):=
 cond (aG 0 (List.length x7:Int)) ((k1 N x7).bind fun r2=>cond (small (List.length x6+List.length ([r2.2]))) (bQ x2 x3 x4 x5 (x6++([r2.2])) r2.1) (none)) (vJ x2 x3 x4 x5 x6 (false,kW) (false,kW) (W .i64 ((List.length x6:Int)-1)))
def eQ.l3(N:Nat):Nat→eQ.cf
 |0,_,_,_,_,_,_=>none
 |n+1,x2,x3,x4,x5,x6,x7=>eQ.gZ N (eQ.l9 N N) (eQ.l3 N n) x2 x3 x4 x5 x6 x7
def eQ.b(N:Nat)(iI:eQ.cf)(a0:au)(a1:au):Option (au×au):=
 iI a0 a1 (false,kW) (false,kW) ([]) a0.2.1
def eQ(N:Nat)(a0:au)(a1:au):Option (au×au):=eQ.b N (eQ.l3 N N) a0 a1
abbrev pt.zS:=Int→ae→ag→kO→aE→Int→(List (Int))→Int→Option (aE×(Int))
abbrev pt.fa:=Int→ae→ag→kO→aE→Int→Option (aE×(Int))
def pt.s5(N:Nat)(fL:pt.fa)(x2:Int)(x3:ae)(x4:ag)(x8:kO)(aO:aE)(aH:Int)(aL:List (Int))(cG:Int):Option (aE×(Int)):=
 cond (ay cG 0) (fL x2 x3 x4 x8 aO (W .i64 (aH+1))) (cond (aI 0 (List.length aL)) (cond (aI aH (List.length x8)) ((JQ N (List.getD x8 aH.toNat (false,kW))).bind fun n8=>cond (aG 0 n8) (cond (small (List.length aO+List.length ([(x2,(List.getD aL (0:Int).toNat (0:Int),((2:Int),(cG,()))))]))) (fL (W .i64 (x2+1)) x3 x4 x8 (aO++([(x2,(List.getD aL (0:Int).toNat (0:Int),((2:Int),(cG,()))))])) (W .i64 (aH+1))) (none)) (cond (small (List.length aO+List.length ([(x2,(List.getD aL (0:Int).toNat (0:Int),((1:Int),(cG,()))))]))) (fL (W .i64 (x2+1)) x3 x4 x8 (aO++([(x2,(List.getD aL (0:Int).toNat (0:Int),((1:Int),(cG,()))))])) (W .i64 (aH+1))) (none))) (none)) (none))
def pt.AN(N:Nat)(fL:pt.fa)(x2:Int)(x3:ae)(x4:ag)(x8:kO)(aO:aE)(aH:Int)(aL:List (Int))(cG:Int):Option (aE×(Int)):=pt.s5 N fL x2 x3 x4 x8 aO aH aL cG
def pt.oI(N:Nat)(pO:pt.zS)(fL:pt.fa)(x2:Int)(x3:ae)(x4:ag)(x8:kO)(aO:aE)(aH:Int):Option (aE×(Int)):=
 cond (aG aH 4) ((wG N x3 aH).bind fun r3=>cond (aI aH (List.length x8)) ((ND N (List.getD x8 aH.toNat (false,kW))).bind fun r4=>cond (ay (List.length r3:Int) 0) (fL x2 x3 x4 x8 aO (W .i64 (aH+1))) ((gf N x3.2.2.2.2.2.2.1).bind fun r6=>(Hu N r4 r6).bind fun r7=>cond (bR r7 0) (fL x2 x3 x4 x8 aO (W .i64 (aH+1))) (cond (aI 0 (List.length r3)) (cond (aI (List.getD r3 (0:Int).toNat (0:Int)) (List.length x4.2.2.2.2.1)) ((gf N (List.getD x4.2.2.2.2.1 (List.getD r3 (0:Int).toNat (0:Int)).toNat (0:Int))).bind fun r9=>(eQ N r4 r9).bind fun jF=>(qz N jF.1).bind fun kT=>cond (!kT.2) (pO x2 x3 x4 x8 aO aH r3 (1000000000:Int)) (cond (aG 1000000000 kT.1) (pO x2 x3 x4 x8 aO aH r3 (1000000000:Int)) (pO x2 x3 x4 x8 aO aH r3 kT.1))) (none)) (none)))) (none)) (some (aO,(0:Int)))
def pt.l6(N:Nat):Nat→pt.fa
 |0,_,_,_,_,_,_=>none
 |n+1,x2,x3,x4,x8,aO,aH=>pt.oI N (pt.AN N (pt.l6 N n)) (pt.l6 N n) x2 x3 x4 x8 aO aH
def pt.b(N:Nat)(pC:pt.fa)(a0:ae)(a1:ag)(a2:Int):Option (aE×(Int)):=
 (mO N a0 a1).bind fun r1=>cond (!ay r1.2 0) (some ([],(1:Int))) (cond (aG a2 1) (some ([],(1:Int))) (cond (aG 1099511627772 a2) (some ([],(1:Int))) (pC a2 a0 a1 r1.1 ([]) (0:Int))))
def pt(N:Nat)(a0:ae)(a1:ag)(a2:Int):Option (aE×(Int)):=pt.b N (pt.l6 N N) a0 a1 a2
def RA(N:Nat)(a0:bS):Option (Bool):=
 cond (bR 1 a0.1) (cond (bR a0.1 1099511627776) (cond (bR 0 a0.2.1) (cond (aG a0.2.1 6) (cond (ay a0.2.2.1 1) (cond (bR 1 a0.2.2.2.1) (some (bR a0.2.2.2.1 1000000000)) (some false)) (cond (ay a0.2.2.1 2) (cond (bR 1 a0.2.2.2.1) (some (bR a0.2.2.2.1 1000000000)) (some false)) (some false))) (some false)) (some false)) (some false)) (some false)
abbrev pv.aeV:=Int→ae→ag→bS→ag→bS→uy→Option (ag×bS×(Int))
def pv.YX(N:Nat)(x4:Int)(x6:ae)(x7:ag)(x8:bS)(aL:ag)(bn:bS)(cV:uy):Option (ag×bS×(Int)):=
 (fu N x6 x7 ([cV])).bind fun r6=>cond (!ay r6.2 0) (some ((bN,(cI,(bq,(bq,(c3,(de,())))))),aS,r6.2)) (some (r6.1,(x8.1,(x8.2.1,(x8.2.2.1,((W .i64 (x8.2.2.2.1-x4)),x8.2.2.2.2)))),(0:Int)))
def pv.j14(N:Nat)(x4:Int)(x6:ae)(x7:ag)(x8:bS)(aL:ag)(bn:bS)(cV:uy):Option (ag×bS×(Int)):=pv.YX N x4 x6 x7 x8 aL bn cV
def pv.b(N:Nat)(Xa:pv.aeV)(a0:ae)(a1:ag)(a2:bS)(a3:Int)(a4:Int)(a5:Int):Option (ag×bS×(Int)):=
 (bC N a0 a1).bind fun r1=>cond (!r1) (some ((bN,(cI,(bq,(bq,(c3,(de,())))))),aS,(1:Int))) ((RA N a2).bind fun r2=>cond (!r2) (some ((bN,(cI,(bq,(bq,(c3,(de,())))))),aS,(1:Int))) (cond (aG a4 1) (some ((bN,(cI,(bq,(bq,(c3,(de,())))))),aS,(1:Int))) (cond (aG 1000000000 a4) (some ((bN,(cI,(bq,(bq,(c3,(de,())))))),aS,(1:Int))) (cond (aG a5 1) (some ((bN,(cI,(bq,(bq,(c3,(de,())))))),aS,(1:Int))) (cond (aG 1000000000000 a5) (some ((bN,(cI,(bq,(bq,(c3,(de,())))))),aS,(1:Int))) (cond (aG a2.2.2.2.1 a4) (some ((bN,(cI,(bq,(bq,(c3,(de,())))))),aS,(9:Int))) (cond (aG a3 1) (some ((bN,(cI,(bq,(bq,(c3,(de,())))))),aS,(1:Int))) (cond (aG 24 a3) (some ((bN,(cI,(bq,(bq,(c3,(de,())))))),aS,(1:Int))) ((Oz N a0 a1 (a2.1,(a3,(a2.2.1,((W .i64 ((3:Int)-a2.2.2.1)),(a4,(a5,()))))))).bind fun r4=>cond (!ay r4 0) (some ((bN,(cI,(bq,(bq,(c3,(de,())))))),aS,r4)) (cond (ay a2.2.2.1 2) (Xa a4 a0 a1 a2 (bN,(cI,(bq,(bq,(c3,(de,())))))) aS (a3,((0:Int),(a2.2.1,(a4,(a5,())))))) (Xa a4 a0 a1 a2 (bN,(cI,(bq,(bq,(c3,(de,())))))) aS ((0:Int),(a3,(a2.2.1,(a4,(a5,()))))))))))))))))
def pv(N:Nat)(a0:ae)(a1:ag)(a2:bS)(a3:Int)(a4:Int)(a5:Int):Option (ag×bS×(Int)):=pv.b N (pv.j14 N) a0 a1 a2 a3 a4 a5
abbrev m4.bg:=ae→aT→gm→aT→cE→aE→Bool→Int→Int→Option (aT×cE)
def m4.dp(N:Nat)(bb:m4.bg)(x3:ae)(x4:aT)(x5:gm)(x6:aT)(x7:cE)(x8:aE)(x9:Bool)(aO:Int)(aH:Int):Option (aT×cE):=
 cond (aG aH (List.length x4.2.2.2.1.2.2.2.2.1:Int)) (cond (aI aH (List.length x4.2.2.2.1.2.2.2.2.1)) (cond (ay ((List.getD x4.2.2.2.1.2.2.2.2.1 aH.toNat aS).1) x5.2.2.2.2.2.1) ((pv N x3 x4.2.2.1 (List.getD x4.2.2.2.1.2.2.2.2.1 aH.toNat aS) x5.2.2.1 x5.2.2.2.2.2.2.1 x5.2.2.2.2.2.2.2.1).bind fun r2=>cond (!ay r2.2.2 0) ((ei N r2.2.2).bind fun r3=>some (x4,r3)) (cond (aG 0 r2.2.1.2.2.2.1) (cond (small (List.length x8+List.length ([r2.2.1]))) (bb x3 (x4.1,(x4.2.1,(r2.1,x4.2.2.2))) x5 x6 x7 (x8++([r2.2.1])) true r2.2.1.2.2.2.1 (W .i64 (aH+1))) (none)) (bb x3 (x4.1,(x4.2.1,(r2.1,x4.2.2.2))) x5 x6 x7 x8 true r2.2.1.2.2.2.1 (W .i64 (aH+1))))) (cond (aG 0 (((((List.getD x4.2.2.2.1.2.2.2.2.1 aH.toNat aS).2).2).2).1)) (cond (small (List.length x8+List.length ([List.getD x4.2.2.2.1.2.2.2.2.1 aH.toNat aS]))) (bb x3 x4 x5 x6 x7 (x8++([List.getD x4.2.2.2.1.2.2.2.2.1 aH.toNat aS])) x9 aO (W .i64 (aH+1))) (none)) (bb x3 x4 x5 x6 x7 x8 x9 aO (W .i64 (aH+1))))) (none)) (cond (!x9) ((ei N (3:Int)).bind fun jF=>some (x4,jF)) (some ((x4.1,(x4.2.1,(x4.2.2.1,((x4.2.2.2.1.1,(x4.2.2.2.1.2.1,(x4.2.2.2.1.2.2.1,(x4.2.2.2.1.2.2.2.1,(x8,x4.2.2.2.1.2.2.2.2.2))))),x4.2.2.2.2)))),((0:Int),((0:Int),(aO,()))))))
def m4.l5(N:Nat):Nat→m4.bg
 |0,_,_,_,_,_,_,_,_,_=>none
 |n+1,x3,x4,x5,x6,x7,x8,x9,aO,aH=>m4.dp N (m4.l5 N n) x3 x4 x5 x6 x7 x8 x9 aO aH
def m4.b(N:Nat)(dF:m4.bg)(a0:ae)(a1:aT)(a2:gm):Option (aT×cE):=
 dF a0 a1 a2 ((0:Int),((0:Int),((bN,(cI,(bq,(bq,(c3,(de,())))))),(((0:Int),((0:Int),((0:Int),((0:Int),(cI,(([]:List ((Int)×((List ((Int)×((Int)×(Unit))))×((Int)×((Int)×((Int)×((Int)×(Unit)))))))),(cI,(c3,(bN,(bN,())))))))))),(((0:Int),((0:Int),(xG,((0:Int),())))),()))))) aR ([]) false (0:Int) (0:Int)
def m4(N:Nat)(a0:ae)(a1:aT)(a2:gm):Option (aT×cE):=m4.b N (m4.l5 N N) a0 a1 a2
abbrev mV.aU:=Int→au→Int→Option (Int)
def mV.cj(N:Nat)(br:mV.aU)(x1:Int)(x2:au)(x5:Int):Option (Int):=
 cond (aG x5 3) ((gf N x5).bind fun r3=>(gf N x1).bind fun r4=>(fR N r3 r4).bind fun r5=>(Hu N r5 x2).bind fun r6=>cond (aG r6 0) (br x1 x2 (W .i64 (x5+1))) (some x5)) (some x5)
def mV.l4(N:Nat):Nat→mV.aU
 |0,_,_,_=>none
 |n+1,x1,x2,x5=>mV.cj N (mV.l4 N n) x1 x2 x5
def mV.b(N:Nat)(cT:mV.aU)(a0:au)(a1:Int):Option (Int):=
 (JQ N a0).bind fun r1=>cond (bR r1 0) (some (0:Int)) (cond (aG a1 1) (some (0:Int)) (cT a1 a0 (1:Int)))
def mV(N:Nat)(a0:au)(a1:Int):Option (Int):=mV.b N (mV.l4 N N) a0 a1
abbrev la.aU:=(List (Int))→Int→Option (Bool)
def la.cj(N:Nat)(br:la.aU)(x1:List (Int))(x5:Int):Option (Bool):=
 cond (aG x5 (List.length x1:Int)) (cond (aI x5 (List.length x1)) (cond (aG (List.getD x1 x5.toNat (0:Int)) (0:Int)) (some true) (br x1 (W .i64 (x5+1)))) (none)) (some false)
def la.l4(N:Nat):Nat→la.aU
 |0,_,_=>none
 |n+1,x1,x5=>la.cj N (la.l4 N n) x1 x5
def la.b(N:Nat)(cT:la.aU)(a0:Int)(a1:List (Int)):Option (Bool):=
 cond (aG a0 0) (some true) (cond (aG 64 (List.length a1:Int)) (some true) (cT a1 (0:Int)))
def la(N:Nat)(a0:Int)(a1:List (Int)):Option (Bool):=la.b N (la.l4 N N) a0 a1
abbrev kZ.cf:=(List (Int))→au→au→Int→Option au
def kZ.gZ(N:Nat)(bQ:kZ.cf)(x0:List (Int))(x2:au)(x3:au)(x4:Int):Option au:=
 cond (aG x4 (List.length x0:Int)) (cond (aI x4 (List.length x0)) ((gf N (List.getD x0 x4.toNat (0:Int))).bind fun r2=>(tP N x3 r2).bind fun r3=>bQ x0 x2 r3 (W .i64 (x4+1))) (none)) (some x3)
def kZ.l3(N:Nat):Nat→kZ.cf
 |0,_,_,_,_=>none
 |n+1,x0,x2,x3,x4=>kZ.gZ N (kZ.l3 N n) x0 x2 x3 x4
def kZ.b(N:Nat)(iI:kZ.cf)(a0:List (Int)):Option au:=
 iI a0 (false,kW) (false,kW) (0:Int)
def kZ(N:Nat)(a0:List (Int)):Option au:=kZ.b N (kZ.l3 N N) a0
abbrev dj.I2:=(List (Int))→(List (Int))→Int→Int→Option (List (Int))
abbrev dj.fa:=(List (Int))→(List (Int))→Int→Int→Option (List (Int))
abbrev dj.cf:=(List (Int))→(List (Int))→Int→Option (List (Int))
def dj.IC(N:Nat)(bQ:dj.cf)(x0:List (Int))(x3:List (Int))(x4:Int)(x5:Int):Option (List (Int)):=
 cond (fB 0 x5 (List.length x3:Int) (List.length x3:Int)) (let v5:List (Int):=List.drop (0:Int).toNat (List.take x5.toNat x3);cond (small (List.length v5)) (cond (small (List.length v5+List.length ([x4]))) (let v6:List (Int):=v5++([x4]);cond (fB x5 (List.length x3:Int) (List.length x3:Int) (List.length x3:Int)) (let v7:List (Int):=List.drop x5.toNat (List.take (List.length x3:Int).toNat x3);cond (small (List.length v6+List.length v7)) (bQ x0 (v6++v7) (W .i64 (x4+1))) (none)) (none)) (none)) (none)) (none)
def dj.j8(N:Nat)(bQ:dj.cf)(x0:List (Int))(x3:List (Int))(x4:Int)(x5:Int):Option (List (Int)):=dj.IC N bQ x0 x3 x4 x5
def dj.oI(N:Nat)(zK:dj.I2)(bQ:dj.cf)(fL:dj.fa)(x0:List (Int))(x3:List (Int))(x4:Int)(x5:Int):Option (List (Int)):=
 cond (aG x5 (List.length x3:Int)) (cond (aI x5 (List.length x3)) (cond (aI (List.getD x3 x5.toNat (0:Int)) (List.length x0)) (cond (aI x4 (List.length x0)) (cond (bR (List.getD x0 x4.toNat (0:Int)) (List.getD x0 (List.getD x3 x5.toNat (0:Int)).toNat (0:Int))) (fL x0 x3 x4 (W .i64 (x5+1))) (zK x0 x3 x4 x5)) (none)) (none)) (none)) (zK x0 x3 x4 x5)
def dj.l6(N:Nat)(bQ:dj.cf):Nat→dj.fa
 |0,_,_,_,_=>none
 |n+1,x0,x3,x4,x5=>dj.oI N (dj.j8 N bQ) bQ (dj.l6 N bQ n) x0 x3 x4 x5
def dj.gZ(N:Nat)(pC:dj.fa)(bQ:dj.cf)(x0:List (Int))(x3:List (Int))(x4:Int):Option (List (Int)):=
 cond (aG x4 (List.length x0:Int)) (pC x0 x3 x4 (0:Int)) (some x3)
def dj.l3(N:Nat):Nat→dj.cf
 |0,_,_,_=>none
 |n+1,x0,x3,x4=>dj.gZ N (dj.l6 N (dj.l3 N n) N) (dj.l3 N n) x0 x3 x4
def dj.b(N:Nat)(iI:dj.cf)(a0:List (Int)):Option (List (Int)):=
 iI a0 ([]) (0:Int)
def dj(N:Nat)(a0:List (Int)):Option (List (Int)):=dj.b N (dj.l3 N N) a0
abbrev du.m6:=(List (Int))→Int→(List (Int))→Int→Option ((List (Int))×(Int))
abbrev du.qY:=Int→(List (Int))→au→(List (Int))→(List (Int))→Int→Int→Option ((List (Int))×(Int))
abbrev du.Pl:=Int→(List (Int))→au→Option ((List (Int))×(Int))
def du.rV(N:Nat)(zF:du.m6)(x9:List (Int))(aH:Int)(bU:List (Int))(cG:Int):Option ((List (Int))×(Int)):=
 cond (aG cG (List.length bU:Int)) (cond (aG 0 aH) (cond (aI cG (List.length bU)) (cond (aI (List.getD bU cG.toNat (0:Int)) (List.length x9)) (cond (aI (List.getD bU cG.toNat (0:Int)) (List.length x9)) (zF (List.set x9 (List.getD bU cG.toNat (0:Int)).toNat (W .i64 ((List.getD x9 (List.getD bU cG.toNat (0:Int)).toNat (0:Int))+1))) (W .i64 (aH-1)) bU (W .i64 (cG+1))) (none)) (none)) (none)) (some (x9,(0:Int)))) (some (x9,(0:Int)))
def du.sS(N:Nat):Nat→du.m6
 |0,_,_,_,_=>none
 |n+1,x9,aH,bU,cG=>du.rV N (du.sS N n) x9 aH bU cG
def du.AJ(N:Nat)(zH:du.m6)(wT:du.qY)(x0:Int)(x1:List (Int))(x6:au)(x9:List (Int))(aO:List (Int))(aH:Int)(aL:Int):Option ((List (Int))×(Int)):=
 cond (aG aL (List.length x1:Int)) ((gf N x0).bind fun jF=>cond (aI aL (List.length x1)) ((gf N (List.getD x1 aL.toNat (0:Int))).bind fun kT=>(fR N jF kT).bind fun ma=>(eQ N ma x6).bind fun nu=>(qz N nu.1).bind fun n8=>cond (aI aL (List.length x9)) (let Mm:List (Int):=List.set x9 aL.toNat n8.1;(qz N nu.2).bind fun vI=>cond (aI aL (List.length aO)) (cond (aI aL (List.length Mm)) (wT x0 x1 x6 Mm (List.set aO aL.toNat vI.1) (W .i64 (aH-(List.getD Mm aL.toNat (0:Int)))) (W .i64 (aL+1))) (none)) (none)) (none)) (none)) ((dj N aO).bind fun FY=>zH x9 aH FY (0:Int))
def du.DJ(N:Nat):Nat→du.qY
 |0,_,_,_,_,_,_,_=>none
 |n+1,x0,x1,x6,x9,aO,aH,aL=>du.AJ N (du.sS N N) (du.DJ N n) x0 x1 x6 x9 aO aH aL
def du.Mk(N:Nat)(F1:du.qY)(x0:Int)(x1:List (Int))(x6:au):Option ((List (Int))×(Int)):=
 (qz N x6).bind fun r5=>cond (!r5.2) (some ([],(2:Int))) (cond (dS (List.length x1:Int) (List.length x1:Int)) (let v6:List (Int):=List.replicate (List.length x1:Int).toNat (0:Int);cond (dS (List.length x1:Int) (List.length x1:Int)) ((JQ N x6).bind fun r8=>cond (ay r8 0) (some (v6,(0:Int))) (F1 x0 x1 x6 v6 (List.replicate (List.length x1:Int).toNat (0:Int)) x0 (0:Int))) (none)) (none))
def du.j6(N:Nat)(x0:Int)(x1:List (Int))(x6:au):Option ((List (Int))×(Int)):=du.Mk N (du.DJ N N) x0 x1 x6
def du.b(N:Nat)(Dq:du.Pl)(a0:Int)(a1:List (Int)):Option ((List (Int))×(Int)):=
 (la N a0 a1).bind fun r1=>cond (r1) (some ([],(1:Int))) ((kZ N a1).bind fun r2=>(JQ N r2).bind fun r3=>cond (ay r3 0) (cond (!ay a0 0) (some ([],(1:Int))) (Dq a0 a1 r2)) (Dq a0 a1 r2))
def du(N:Nat)(a0:Int)(a1:List (Int)):Option ((List (Int))×(Int)):=du.b N (du.j6 N) a0 a1
abbrev mL.bg:=Int→Int→(List (Int))→Int→Option ((List (Int))×(Int))
def mL.dp(N:Nat)(bb:mL.bg)(x0:Int)(x1:Int)(x6:List (Int))(x7:Int):Option ((List (Int))×(Int)):=
 cond (aG x7 x1) (cond (aI x7 (List.length x6)) (bb x0 x1 (List.set x6 x7.toNat (1:Int)) (W .i64 (x7+1))) (none)) ((du N x0 x6).bind fun r5=>some (r5.1,r5.2))
def mL.l5(N:Nat):Nat→mL.bg
 |0,_,_,_,_=>none
 |n+1,x0,x1,x6,x7=>mL.dp N (mL.l5 N n) x0 x1 x6 x7
def mL.b(N:Nat)(dF:mL.bg)(a0:Int)(a1:Int):Option ((List (Int))×(Int)):=
 cond (aG a0 0) (some ([],(1:Int))) (cond (aG a1 1) (some ([],(1:Int))) (cond (aG 64 a1) (some ([],(1:Int))) (cond (dS a1 a1) (dF a0 a1 (List.replicate a1.toNat (0:Int)) (0:Int)) (none))))
def mL(N:Nat)(a0:Int)(a1:Int):Option ((List (Int))×(Int)):=mL.b N (mL.l5 N N) a0 a1
abbrev cP.aeW:=Int→ae→av→aY→Int→av→Int→Int→gQ→av→Int→(List (Int))→Option (aY×(Int))
abbrev cP.Po:=Int→ae→av→aY→Int→av→Int→Int→gQ→av→Int→Int→Option (aY×(Int))
abbrev cP.m7:=Int→ae→av→aY→Int→av→Int→Int→gQ→av→Int→Option (aY×(Int))
abbrev cP.oF:=Int→ae→av→aY→Int→av→Int→Int→Option (aY×(Int))
abbrev cP.dP:=Int→ae→av→aY→Int→av→au→Int→Option (aY×(Int))
abbrev cP.fy:=Int→ae→av→aY→Int→Option (aY×(Int))
def cP.Y6(N:Nat)(dy:cP.fy)(iU:cP.oF)(m8:cP.m7)(x2:Int)(x3:ae)(x8:av)(x9:aY)(aO:Int)(aH:av)(bm:Int)(bU:Int)(cG:gQ)(pD:av)(cV:Int)(kR:List (Int)):Option (aY×(Int)):=
 cond (aI bU (List.length kR)) (cond (!ay (List.getD kR bU.toNat (0:Int)) (0:Int)) (cond (aI cV (List.length aH)) (cond (aI bU (List.length kR)) (cond (small (List.length pD+List.length ([((List.getD aH cV.toNat ca).1,(List.getD kR bU.toNat (0:Int),()))]))) (m8 x2 x3 x8 x9 aO aH bm bU (cG.1,(bN,cG.2.2)) (pD++([((List.getD aH cV.toNat ca).1,(List.getD kR bU.toNat (0:Int),()))])) (W .i64 (cV+1))) (none)) (none)) (none)) (m8 x2 x3 x8 x9 aO aH bm bU cG pD (W .i64 (cV+1)))) (none)
def cP.j32(N:Nat)(dy:cP.fy)(iU:cP.oF)(m8:cP.m7)(x2:Int)(x3:ae)(x8:av)(x9:aY)(aO:Int)(aH:av)(bm:Int)(bU:Int)(cG:gQ)(pD:av)(cV:Int)(kR:List (Int)):Option (aY×(Int)):=cP.Y6 N dy iU m8 x2 x3 x8 x9 aO aH bm bU cG pD cV kR
def cP.LM(N:Nat)(Xb:cP.aeW)(dy:cP.fy)(iU:cP.oF)(m8:cP.m7)(x2:Int)(x3:ae)(x8:av)(x9:aY)(aO:Int)(aH:av)(bm:Int)(bU:Int)(cG:gQ)(pD:av)(cV:Int)(fU:Int):Option (aY×(Int)):=
 (mL N fU bm).bind fun vI=>cond (aI cV (List.length aH)) (cond (aG (((List.getD aH cV.toNat ca).2).1) (0:Int)) (cond (aI bU (List.length vI.1)) (cond (aI bU (List.length vI.1)) (Xb x2 x3 x8 x9 aO aH bm bU cG pD cV (List.set vI.1 bU.toNat (W .i64 (0-(List.getD vI.1 bU.toNat (0:Int)))))) (none)) (none)) (Xb x2 x3 x8 x9 aO aH bm bU cG pD cV vI.1)) (none)
def cP.RY(N:Nat)(dy:cP.fy)(iU:cP.oF)(m8:cP.m7)(x2:Int)(x3:ae)(x8:av)(x9:aY)(aO:Int)(aH:av)(bm:Int)(bU:Int)(cG:gQ)(pD:av)(cV:Int)(fU:Int):Option (aY×(Int)):=cP.LM N (cP.j32 N dy iU m8) dy iU m8 x2 x3 x8 x9 aO aH bm bU cG pD cV fU
def cP.yQ(N:Nat)(F3:cP.Po)(dy:cP.fy)(iU:cP.oF)(m8:cP.m7)(x2:Int)(x3:ae)(x8:av)(x9:aY)(aO:Int)(aH:av)(bm:Int)(bU:Int)(cG:gQ)(pD:av)(cV:Int):Option (aY×(Int)):=
 cond (aG cV (List.length aH:Int)) (cond (aI cV (List.length aH)) (cond (aG (((List.getD aH cV.toNat ca).2).1) (0:Int)) (F3 x2 x3 x8 x9 aO aH bm bU cG pD cV (W .i64 (0-(((List.getD aH cV.toNat ca).2).1)))) (F3 x2 x3 x8 x9 aO aH bm bU cG pD cV (((List.getD aH cV.toNat ca).2).1))) (none)) (cond (ay (List.length pD:Int) 0) (iU x2 x3 x8 x9 aO aH bm (W .i64 (bU+1))) ((OR N x3 pD).bind fun DM=>(Ml N DM.1).bind fun DN=>(qz N DN).bind fun wR=>cond (!wR.2) (some ([],(2:Int))) (cond (small (List.length x9+List.length ([(cG.1,(pD,(wR.1,cG.2.2.2)))]))) (iU (W .i64 (x2+1)) x3 x8 (x9++([(cG.1,(pD,(wR.1,cG.2.2.2)))])) aO aH bm (W .i64 (bU+1))) (none))))
def cP.xN(N:Nat)(dy:cP.fy)(iU:cP.oF):Nat→cP.m7
 |0,_,_,_,_,_,_,_,_,_,_,_=>none
 |n+1,x2,x3,x8,x9,aO,aH,bm,bU,cG,pD,cV=>cP.yQ N (cP.RY N dy iU (cP.xN N dy iU n)) dy iU (cP.xN N dy iU n) x2 x3 x8 x9 aO aH bm bU cG pD cV
def cP.IQ(N:Nat)(FT:cP.m7)(dy:cP.fy)(iU:cP.oF)(x2:Int)(x3:ae)(x8:av)(x9:aY)(aO:Int)(aH:av)(bm:Int)(bU:Int):Option (aY×(Int)):=
 cond (aG bU bm) (FT x2 x3 x8 x9 aO aH bm bU (x2,(bN,((0:Int),((1:Int),ca)))) bN (0:Int)) (dy x2 x3 x8 x9 (W .i64 (aO+1)))
def cP.Di(N:Nat)(dy:cP.fy):Nat→cP.oF
 |0,_,_,_,_,_,_,_,_=>none
 |n+1,x2,x3,x8,x9,aO,aH,bm,bU=>cP.IQ N (cP.xN N dy (cP.Di N dy n) N) dy (cP.Di N dy n) x2 x3 x8 x9 aO aH bm bU
def cP.j2(N:Nat)(Pp:cP.oF)(dy:cP.fy)(fi:cP.dP)(x2:Int)(x3:ae)(x8:av)(x9:aY)(aO:Int)(aH:av)(aL:au)(bn:Int):Option (aY×(Int)):=
 cond (aG bn (List.length x8:Int)) (cond (aI bn (List.length x8)) (cond (aI ((List.getD x8 bn.toNat ca).1) (List.length x3.1)) (cond (ay ((List.getD x3.1 ((List.getD x8 bn.toNat ca).1).toNat aS).1) aO) (cond (aI bn (List.length x8)) (cond (small (List.length aH+List.length ([List.getD x8 bn.toNat ca]))) (cond (aI bn (List.length x8)) ((gf N (((List.getD x8 bn.toNat ca).2).1)).bind fun r6=>(ND N r6).bind fun r7=>(tP N aL r7).bind fun r8=>fi x2 x3 x8 x9 aO (aH++([List.getD x8 bn.toNat ca])) r8 (W .i64 (bn+1))) (none)) (none)) (none)) (fi x2 x3 x8 x9 aO aH aL (W .i64 (bn+1)))) (none)) (none)) ((mV N aL x3.2.2.2.2.2.1).bind fun kT=>Pp x2 x3 x8 x9 aO aH kT (0:Int))
def cP.lH(N:Nat)(dy:cP.fy):Nat→cP.dP
 |0,_,_,_,_,_,_,_,_=>none
 |n+1,x2,x3,x8,x9,aO,aH,aL,bn=>cP.j2 N (cP.Di N dy N) dy (cP.lH N dy n) x2 x3 x8 x9 aO aH aL bn
def cP.xR(N:Nat)(oD:cP.dP)(dy:cP.fy)(x2:Int)(x3:ae)(x8:av)(x9:aY)(aO:Int):Option (aY×(Int)):=
 cond (aG aO 4) (oD x2 x3 x8 x9 aO ([]) (false,kW) (0:Int)) (some (x9,(0:Int)))
def cP.l8(N:Nat):Nat→cP.fy
 |0,_,_,_,_,_=>none
 |n+1,x2,x3,x8,x9,aO=>cP.xR N (cP.lH N (cP.l8 N n) N) (cP.l8 N n) x2 x3 x8 x9 aO
def cP.b(N:Nat)(zR:cP.fy)(a0:ae)(a1:ag)(a2:Int):Option (aY×(Int)):=
 (bC N a0 a1).bind fun r1=>cond (!r1) (some ([],(1:Int))) (cond (aG a2 1) (some ([],(1:Int))) (cond (aG 1099511627764 a2) (some ([],(1:Int))) ((sq N a1.2.2.2.1 (0:Int)).bind fun r2=>cond (ay (List.length r2:Int) 0) (some ([],(3:Int))) (zR a2 a0 r2 ([]) (0:Int)))))
def cP(N:Nat)(a0:ae)(a1:ag)(a2:Int):Option (aY×(Int)):=cP.b N (cP.l8 N N) a0 a1 a2
abbrev mW.bg:=ag→(List (Int))→Int→Option ((List (Int))×(Int))
def mW.dp(N:Nat)(bb:mW.bg)(x3:ag)(x6:List (Int))(x7:Int):Option ((List (Int))×(Int)):=
 cond (aG x7 (List.length x3.1:Int)) (cond (aI x7 (List.length x3.1)) (cond (ay (((List.getD x3.1 x7.toNat ca).2).1) (1:Int)) (cond (aI x7 (List.length x3.1)) ((p4 N x3.2.2.1 (6:Int) ((List.getD x3.1 x7.toNat ca).1)).bind fun r3=>cond (aG 0 r3) (cond (aI x7 (List.length x3.1)) (cond (small (List.length x6+List.length ([(List.getD x3.1 x7.toNat ca).1]))) (bb x3 (x6++([(List.getD x3.1 x7.toNat ca).1])) (W .i64 (x7+1))) (none)) (none)) (bb x3 x6 (W .i64 (x7+1)))) (none)) (bb x3 x6 (W .i64 (x7+1)))) (none)) (some (x6,(0:Int)))
def mW.l5(N:Nat):Nat→mW.bg
 |0,_,_,_=>none
 |n+1,x3,x6,x7=>mW.dp N (mW.l5 N n) x3 x6 x7
def mW.b(N:Nat)(dF:mW.bg)(a0:ae)(a1:ag):Option ((List (Int))×(Int)):=
 (bC N a0 a1).bind fun r1=>cond (!r1) (some ([],(1:Int))) (dF a1 ([]) (0:Int))
def mW(N:Nat)(a0:ae)(a1:ag):Option ((List (Int))×(Int)):=mW.b N (mW.l5 N N) a0 a1
abbrev fb.I4:=aY→ae→Int→gQ→Option (Bool)
abbrev fb.aU:=aY→ae→Int→Option (Bool)
def fb.H7(N:Nat)(br:fb.aU)(x1:aY)(x2:ae)(x5:Int)(x6:gQ):Option (Bool):=
 cond (ay x6.2.2.2.1 1) (cond (!ay x6.2.2.2.2.1 0) (some false) (cond (!ay x6.2.2.2.2.2.1 0) (some false) (br x1 x2 (W .i64 (x5+1))))) (cond (ay x6.2.2.2.1 3) (cond (!ay x6.2.2.2.2.1 0) (some false) (cond (!ay x6.2.2.2.2.2.1 0) (some false) (br x1 x2 (W .i64 (x5+1))))) (cond (ay x6.2.2.2.1 2) (cond (aG x6.2.2.2.2.1 1) (some false) (cond (aG 12 x6.2.2.2.2.1) (some false) (cond (aG x6.2.2.2.2.2.1 (-1152921504606846976)) (some false) (cond (aG 1152921504606846976 x6.2.2.2.2.2.1) (some false) (br x1 x2 (W .i64 (x5+1))))))) (some false)))
def fb.j9(N:Nat)(br:fb.aU)(x1:aY)(x2:ae)(x5:Int)(x6:gQ):Option (Bool):=fb.H7 N br x1 x2 x5 x6
def fb.cj(N:Nat)(zQ:fb.I4)(br:fb.aU)(x1:aY)(x2:ae)(x5:Int):Option (Bool):=
 cond (aG x5 (List.length x1:Int)) (cond (aI x5 (List.length x1)) (cond (aG ((List.getD x1 x5.toNat ((0:Int),(bN,aS))).1) (1:Int)) (some false) (cond (aG 1099511627776 ((List.getD x1 x5.toNat ((0:Int),(bN,aS))).1)) (some false) (cond (aG 0 x5) (let v3:Int:=W .i64 (x5-1);cond (aI v3 (List.length x1)) (cond (bR ((List.getD x1 x5.toNat ((0:Int),(bN,aS))).1) ((List.getD x1 v3.toNat ((0:Int),(bN,aS))).1)) (some false) (cond (ay (List.length (((List.getD x1 x5.toNat ((0:Int),(bN,aS))).2).1):Int) (0:Int)) (some false) ((jt N x2 (((List.getD x1 x5.toNat ((0:Int),(bN,aS))).2).1)).bind fun r4=>cond (!r4) (some false) (cond (aG 0 ((((List.getD x1 x5.toNat ((0:Int),(bN,aS))).2).2).1)) (some false) (zQ x1 x2 x5 (List.getD x1 x5.toNat ((0:Int),(bN,aS)))))))) (none)) (cond (ay (List.length (((List.getD x1 x5.toNat ((0:Int),(bN,aS))).2).1):Int) (0:Int)) (some false) ((jt N x2 (((List.getD x1 x5.toNat ((0:Int),(bN,aS))).2).1)).bind fun r9=>cond (!r9) (some false) (cond (aG 0 ((((List.getD x1 x5.toNat ((0:Int),(bN,aS))).2).2).1)) (some false) (zQ x1 x2 x5 (List.getD x1 x5.toNat ((0:Int),(bN,aS)))))))))) (none)) (some true)
def fb.l4(N:Nat):Nat→fb.aU
 |0,_,_,_=>none
 |n+1,x1,x2,x5=>fb.cj N (fb.j9 N (fb.l4 N n)) (fb.l4 N n) x1 x2 x5
def fb.b(N:Nat)(cT:fb.aU)(a0:ae)(a1:aY):Option (Bool):=
 (iC N a0).bind fun r1=>cond (!r1) (some false) (cond (aG 12 (List.length a1:Int)) (some false) (cT a1 a0 (0:Int)))
def fb(N:Nat)(a0:ae)(a1:aY):Option (Bool):=fb.b N (fb.l4 N N) a0 a1
abbrev lN.bT:=aY→Int→gQ→Int→Option (gQ×(Bool))
def lN.ec(N:Nat)(cX:lN.bT)(x0:aY)(x1:Int)(x4:gQ)(x6:Int):Option (gQ×(Bool)):=
 cond (aG x6 (List.length x0:Int)) (cond (aI x6 (List.length x0)) (cond (ay ((List.getD x0 x6.toNat ((0:Int),(bN,aS))).1) x1) (cond (aI x6 (List.length x0)) (some (List.getD x0 x6.toNat ((0:Int),(bN,aS)),true)) (none)) (cX x0 x1 x4 (W .i64 (x6+1)))) (none)) (some (((0:Int),(bN,aS)),false))
def lN.l2(N:Nat):Nat→lN.bT
 |0,_,_,_,_=>none
 |n+1,x0,x1,x4,x6=>lN.ec N (lN.l2 N n) x0 x1 x4 x6
def lN.b(N:Nat)(fx:lN.bT)(a0:aY)(a1:Int):Option (gQ×(Bool)):=
 fx a0 a1 ((0:Int),(bN,aS)) (0:Int)
def lN(N:Nat)(a0:aY)(a1:Int):Option (gQ×(Bool)):=lN.b N (lN.l2 N N) a0 a1
abbrev c5.fH:=av→av→av→Int→au→Int→Option (av×(Bool))
abbrev c5.cJ:=av→av→av→Int→au→Int→Option (av×(Bool))
abbrev c5.cf:=av→av→av→Int→Option (av×(Bool))
def c5.lF(N:Nat)(bQ:c5.cf)(ik:c5.fH)(x0:av)(x1:av)(x6:av)(x7:Int)(x8:au)(aO:Int):Option (av×(Bool)):=
 cond (aG aO (List.length x1:Int)) (cond (aI aO (List.length x1)) (cond (ay ((List.getD x1 aO.toNat ca).1) x7) (cond (aI aO (List.length x1)) ((gf N (((List.getD x1 aO.toNat ca).2).1)).bind fun r8=>(tP N x8 r8).bind fun r9=>ik x0 x1 x6 x7 r9 (W .i64 (aO+1))) (none)) (ik x0 x1 x6 x7 x8 (W .i64 (aO+1)))) (none)) ((Iq N x8).bind fun ma=>cond (!ma.2) (some ([],false)) (cond (!ay ma.1 0) (cond (small (List.length x6+List.length ([(x7,(ma.1,()))]))) (bQ x0 x1 (x6++([(x7,(ma.1,()))])) (W .i64 (x7+1))) (none)) (bQ x0 x1 x6 (W .i64 (x7+1)))))
def c5.nh(N:Nat)(bQ:c5.cf):Nat→c5.fH
 |0,_,_,_,_,_,_=>none
 |n+1,x0,x1,x6,x7,x8,aO=>c5.lF N bQ (c5.nh N bQ n) x0 x1 x6 x7 x8 aO
def c5.lC(N:Nat)(qX:c5.fH)(bQ:c5.cf)(cz:c5.cJ)(x0:av)(x1:av)(x6:av)(x7:Int)(x8:au)(x9:Int):Option (av×(Bool)):=
 cond (aG x9 (List.length x0:Int)) (cond (aI x9 (List.length x0)) (cond (ay ((List.getD x0 x9.toNat ca).1) x7) (cond (aI x9 (List.length x0)) ((gf N (((List.getD x0 x9.toNat ca).2).1)).bind fun r3=>(tP N x8 r3).bind fun r4=>cz x0 x1 x6 x7 r4 (W .i64 (x9+1))) (none)) (cz x0 x1 x6 x7 x8 (W .i64 (x9+1)))) (none)) (qX x0 x1 x6 x7 x8 (0:Int))
def c5.l7(N:Nat)(bQ:c5.cf):Nat→c5.cJ
 |0,_,_,_,_,_,_=>none
 |n+1,x0,x1,x6,x7,x8,x9=>c5.lC N (c5.nh N bQ N) bQ (c5.l7 N bQ n) x0 x1 x6 x7 x8 x9
def c5.gZ(N:Nat)(nc:c5.cJ)(bQ:c5.cf)(x0:av)(x1:av)(x6:av)(x7:Int):Option (av×(Bool)):=
 cond (aG x7 6) (nc x0 x1 x6 x7 (false,kW) (0:Int)) (some (x6,true))
def c5.l3(N:Nat):Nat→c5.cf
 |0,_,_,_,_=>none
 |n+1,x0,x1,x6,x7=>c5.gZ N (c5.l7 N (c5.l3 N n) N) (c5.l3 N n) x0 x1 x6 x7
def c5.b(N:Nat)(iI:c5.cf)(a0:av)(a1:av):Option (av×(Bool)):=
 iI a0 a1 ([]) (0:Int)
def c5(N:Nat)(a0:av)(a1:av):Option (av×(Bool)):=c5.b N (c5.l3 N N) a0 a1
def aeX(N:Nat)(a0:aW)(a1:Int):Option ah:=
 (iY N a0).bind fun r1=>cond (!r1) (some ([])) ((eD N a0 a1).bind fun r2=>some r2)
abbrev lf.dP:=aE→ae→ag→bS→gQ→Int→Int→Option (Int)
abbrev lf.akt:=aY→aE→ae→ag→bS→Option (Int)
def lf.j2(N:Nat)(fi:lf.dP)(x3:aE)(x5:ae)(x6:ag)(x9:bS)(aL:gQ)(bm:Int)(bU:Int):Option (Int):=
 cond (aG bU (List.length x3:Int)) (cond (aI bU (List.length x3)) (cond (ay ((((List.getD x3 bU.toNat aS).2).2).1) x9.2.2.1) (cond (aI bU (List.length x3)) (cond (ay (((List.getD x3 bU.toNat aS).2).1) x9.2.1) (some (4:Int)) (fi x3 x5 x6 x9 aL bm (W .i64 (bU+1)))) (none)) (fi x3 x5 x6 x9 aL bm (W .i64 (bU+1)))) (none)) (cond (ay (List.length x3:Int) 40) (some (5:Int)) ((gf N x9.2.2.2.1).bind fun nu=>(gf N (4:Int)).bind fun n8=>(gf N aL.2.2.1).bind fun ss=>(fR N n8 ss).bind fun vI=>(Hu N nu vI).bind fun uX=>cond (aG uX 0) (some (11:Int)) ((sq N x6.2.2.2.1 bm).bind fun uY=>(c5 N uY aL.2.1).bind fun F2=>cond (!F2.2) (some (2:Int)) ((aeX N x6.2.2.2.2.2.1 bm).bind fun FY=>(lL N x5 F2.1 FY).bind fun Hy=>(IN N x6 bm).bind fun HA=>(gf N HA).bind fun zG=>(gf N x9.2.2.2.1).bind fun DM=>(JP N zG DM).bind fun DN=>(Hu N DN Hy.1).bind fun wR=>cond (aG wR 0) (some (10:Int)) (some (0:Int))))))
def lf.lH(N:Nat):Nat→lf.dP
 |0,_,_,_,_,_,_,_=>none
 |n+1,x3,x5,x6,x9,aL,bm,bU=>lf.j2 N (lf.lH N n) x3 x5 x6 x9 aL bm bU
def lf.j3b(N:Nat)(oD:lf.dP)(x2:aY)(x3:aE)(x5:ae)(x6:ag)(x9:bS):Option (Int):=
 (Dh N x6 x9.2.2.1).bind fun r7=>cond (ay r7 0) (some (3:Int)) (cond (!ay r7 1) (some (7:Int)) ((lN N x2 x9.2.1).bind fun r8=>(sQ N x6.2.1 x9.2.2.1).bind fun r9=>cond (!r8.2) (some (3:Int)) (cond (!ay r8.1.2.2.2.1 1) (some (3:Int)) (cond (ay r9 0) (some (3:Int)) (oD x3 x5 x6 x9 r8.1 r9 (0:Int))))))
def lf.j3(N:Nat)(x2:aY)(x3:aE)(x5:ae)(x6:ag)(x9:bS):Option (Int):=lf.j3b N (lf.lH N N) x2 x3 x5 x6 x9
def lf.b(N:Nat)(aeY:lf.akt)(a0:ae)(a1:ag)(a2:aY)(a3:aE)(a4:bS):Option (Int):=
 (bC N a0 a1).bind fun r1=>cond (!r1) (some (1:Int)) ((fb N a0 a2).bind fun r2=>cond (!r2) (some (1:Int)) ((dH N a3).bind fun r3=>cond (!r3) (some (1:Int)) ((Ze N a4).bind fun r4=>cond (!r4) (some (1:Int)) (cond (aG 0 (List.length a3:Int)) (let v5:Int:=W .i64 ((List.length a3:Int)-1);cond (aI v5 (List.length a3)) (cond (bR a4.1 ((List.getD a3 v5.toNat aS).1)) (some (1:Int)) (aeY a2 a3 a0 a1 a4)) (none)) (aeY a2 a3 a0 a1 a4)))))
def lf(N:Nat)(a0:ae)(a1:ag)(a2:aY)(a3:aE)(a4:bS):Option (Int):=lf.b N (lf.j3 N) a0 a1 a2 a3 a4
def aeZ(N:Nat)(a0:ae)(a1:ag)(a2:aY)(a3:aE)(a4:bS):Option (aE×(Int)):=
 (lf N a0 a1 a2 a3 a4).bind fun r1=>cond (!ay r1 0) (some ([],r1)) (cond (small (List.length cI+List.length a3)) (let v2:List ((Int)×((Int)×((Int)×((Int)×(Unit))))):=cI++a3;cond (small (List.length v2+List.length ([a4]))) (some ((v2++([a4])),(0:Int))) (none)) (none))
abbrev F4.fa:=aE→Int→bS→bS→Bool→Int→Option (bS×(Bool))
def F4.oI(N:Nat)(fL:F4.fa)(x0:aE)(x1:Int)(x4:bS)(x6:bS)(x7:Bool)(x8:Int):Option (bS×(Bool)):=
 cond (aG x8 (List.length x0:Int)) (cond (aI x8 (List.length x0)) (cond (ay (((List.getD x0 x8.toNat aS).2).1) x1) (cond (!x7) (cond (aI x8 (List.length x0)) (fL x0 x1 x4 (List.getD x0 x8.toNat aS) true (W .i64 (x8+1))) (none)) (cond (aI x8 (List.length x0)) (cond (aG x6.2.2.2.1 (((((List.getD x0 x8.toNat aS).2).2).2).1)) (cond (aI x8 (List.length x0)) (fL x0 x1 x4 (List.getD x0 x8.toNat aS) true (W .i64 (x8+1))) (none)) (fL x0 x1 x4 x6 x7 (W .i64 (x8+1)))) (none))) (fL x0 x1 x4 x6 x7 (W .i64 (x8+1)))) (none)) (some (x6,x7))
def F4.l6(N:Nat):Nat→F4.fa
 |0,_,_,_,_,_,_=>none
 |n+1,x0,x1,x4,x6,x7,x8=>F4.oI N (F4.l6 N n) x0 x1 x4 x6 x7 x8
def F4.b(N:Nat)(pC:F4.fa)(a0:aE)(a1:Int):Option (bS×(Bool)):=
 (dH N a0).bind fun r1=>cond (!r1) (some (aS,false)) (pC a0 a1 aS aS false (0:Int))
def F4(N:Nat)(a0:aE)(a1:Int):Option (bS×(Bool)):=F4.b N (F4.l6 N N) a0 a1
abbrev su.m6:=aY→aE→ag→ag→ah→bk→aY→Int→gQ→bS→Int→Int→Option (ag×aY×(Int))
abbrev su.cJ:=aY→aE→ag→ag→ah→bk→aY→Int→Option (ag×aY×(Int))
def su.rV(N:Nat)(cz:su.cJ)(zF:su.m6)(x2:aY)(x3:aE)(x5:ag)(x8:ag)(aH:ah)(aL:bk)(bn:aY)(bm:Int)(bU:gQ)(cG:bS)(fU:Int)(kR:Int):Option (ag×aY×(Int)):=
 cond (aG kR (List.length bU.2.1:Int)) (cond (aI kR (List.length bU.2.1)) (cond (aI kR (List.length bU.2.1)) (let P1:Int:=W .i64 (0-(((List.getD bU.2.1 kR.toNat ca).2).1));cond (aI kR (List.length bU.2.1)) (cond (aI kR (List.length bU.2.1)) (cond (small (List.length aH+List.length ([((0:Int),((List.getD bU.2.1 kR.toNat ca).1,(P1,()))),(fU,((List.getD bU.2.1 kR.toNat ca).1,(((List.getD bU.2.1 kR.toNat ca).2).1,())))]))) (zF x2 x3 x5 x8 (aH++([((0:Int),((List.getD bU.2.1 kR.toNat ca).1,(P1,()))),(fU,((List.getD bU.2.1 kR.toNat ca).1,(((List.getD bU.2.1 kR.toNat ca).2).1,())))])) aL bn bm bU cG fU (W .i64 (kR+1))) (none)) (none)) (none)) (none)) (none)) ((gf N cG.2.2.2.1).bind fun uX=>(zC N (5:Int) fU (2:Int) (0:Int) uX).bind fun uY=>cond (small (List.length aL+List.length uY)) (cond (small (List.length bn+List.length ([bU]))) (cz x2 x3 x5 x8 aH (aL++uY) (bn++([bU])) (W .i64 (bm+1))) (none)) (none))
def su.sS(N:Nat)(cz:su.cJ):Nat→su.m6
 |0,_,_,_,_,_,_,_,_,_,_,_,_=>none
 |n+1,x2,x3,x5,x8,aH,aL,bn,bm,bU,cG,fU,kR=>su.rV N cz (su.sS N cz n) x2 x3 x5 x8 aH aL bn bm bU cG fU kR
def su.lC(N:Nat)(zH:su.m6)(cz:su.cJ)(x2:aY)(x3:aE)(x5:ag)(x8:ag)(aH:ah)(aL:bk)(bn:aY)(bm:Int):Option (ag×aY×(Int)):=
 cond (aG bm (List.length x2:Int)) (cond (aI bm (List.length x2)) (cond (small (List.length bN+List.length (((List.getD x2 bm.toNat ((0:Int),(bN,aS))).2).1))) (let v5:List ((Int)×((Int)×(Unit))):=bN++(((List.getD x2 bm.toNat ((0:Int),(bN,aS))).2).1);cond (!ay (((((List.getD x2 bm.toNat ((0:Int),(bN,aS))).2).2).2).1) (1:Int)) (cond (small (List.length bn+List.length ([((List.getD x2 bm.toNat ((0:Int),(bN,aS))).1,(v5,((List.getD x2 bm.toNat ((0:Int),(bN,aS))).2).2))]))) (cz x2 x3 x5 x8 aH aL (bn++([((List.getD x2 bm.toNat ((0:Int),(bN,aS))).1,(v5,((List.getD x2 bm.toNat ((0:Int),(bN,aS))).2).2))])) (W .i64 (bm+1))) (none)) ((F4 N x3 ((List.getD x2 bm.toNat ((0:Int),(bN,aS))).1)).bind fun r8=>cond (!r8.2) (cond (small (List.length bn+List.length ([((List.getD x2 bm.toNat ((0:Int),(bN,aS))).1,(v5,((((List.getD x2 bm.toNat ((0:Int),(bN,aS))).2).2).1,((3:Int),((((List.getD x2 bm.toNat ((0:Int),(bN,aS))).2).2).2).2))))]))) (cz x2 x3 x5 x8 aH aL (bn++([((List.getD x2 bm.toNat ((0:Int),(bN,aS))).1,(v5,((((List.getD x2 bm.toNat ((0:Int),(bN,aS))).2).2).1,((3:Int),((((List.getD x2 bm.toNat ((0:Int),(bN,aS))).2).2).2).2))))])) (W .i64 (bm+1))) (none)) ((sQ N x5.2.1 r8.1.2.2.1).bind fun kT=>cond (ay kT 0) (some ((bN,(cI,(bq,(bq,(c3,(de,())))))),[],(3:Int))) ((Dh N x5 r8.1.2.2.1).bind fun ma=>cond (ay ma 0) (some ((bN,(cI,(bq,(bq,(c3,(de,())))))),[],(3:Int))) (zH x2 x3 x5 x8 aH aL bn bm ((List.getD x2 bm.toNat ((0:Int),(bN,aS))).1,(v5,((((List.getD x2 bm.toNat ((0:Int),(bN,aS))).2).2).1,((2:Int),(r8.1.2.2.1,(r8.1.2.2.2.1,((((((List.getD x2 bm.toNat ((0:Int),(bN,aS))).2).2).2).2).2).2)))))) r8.1 kT (0:Int)))))) (none)) (none)) ((uw N x5 aH aL).bind fun HA=>cond (!ay HA.2 0) (some ((bN,(cI,(bq,(bq,(c3,(de,())))))),[],HA.2)) (some (HA.1,bn,(0:Int))))
def su.l7(N:Nat):Nat→su.cJ
 |0,_,_,_,_,_,_,_,_=>none
 |n+1,x2,x3,x5,x8,aH,aL,bn,bm=>su.lC N (su.sS N (su.l7 N n) N) (su.l7 N n) x2 x3 x5 x8 aH aL bn bm
def su.b(N:Nat)(nc:su.cJ)(a0:ae)(a1:ag)(a2:aY)(a3:aE):Option (ag×aY×(Int)):=
 (bC N a0 a1).bind fun r1=>cond (!r1) (some ((bN,(cI,(bq,(bq,(c3,(de,())))))),[],(1:Int))) ((fb N a0 a2).bind fun r2=>cond (!r2) (some ((bN,(cI,(bq,(bq,(c3,(de,())))))),[],(1:Int))) ((dH N a3).bind fun r3=>cond (!r3) (some ((bN,(cI,(bq,(bq,(c3,(de,())))))),[],(1:Int))) (nc a2 a3 a1 (bN,(cI,(bq,(bq,(c3,(de,())))))) ([]) ([]) ([]) (0:Int))))
def su(N:Nat)(a0:ae)(a1:ag)(a2:aY)(a3:aE):Option (ag×aY×(Int)):=su.b N (su.l7 N N) a0 a1 a2 a3
abbrev kQ.bT:=av→Int→Option (Bool)
def kQ.ec(N:Nat)(cX:kQ.bT)(x0:av)(x3:Int):Option (Bool):=
 cond (aG x3 (List.length x0:Int)) (cond (aI x3 (List.length x0)) (cond (aG ((List.getD x0 x3.toNat ca).1) (1:Int)) (some false) (cond (aI x3 (List.length x0)) (cond (aG 12 ((List.getD x0 x3.toNat ca).1)) (some false) (cond (aI x3 (List.length x0)) (cond (aG (((List.getD x0 x3.toNat ca).2).1) (1:Int)) (some false) (cond (aI x3 (List.length x0)) (cond (aG 4 (((List.getD x0 x3.toNat ca).2).1)) (some false) (cond (aG 0 x3) (cond (aI x3 (List.length x0)) (let v2:Int:=W .i64 (x3-1);cond (aI v2 (List.length x0)) (cond (bR ((List.getD x0 x3.toNat ca).1) ((List.getD x0 v2.toNat ca).1)) (some false) (cX x0 (W .i64 (x3+1)))) (none)) (none)) (cX x0 (W .i64 (x3+1))))) (none))) (none))) (none))) (none)) (some true)
def kQ.l2(N:Nat):Nat→kQ.bT
 |0,_,_=>none
 |n+1,x0,x3=>kQ.ec N (kQ.l2 N n) x0 x3
def kQ.b(N:Nat)(fx:kQ.bT)(a0:av):Option (Bool):=
 fx a0 (0:Int)
def kQ(N:Nat)(a0:av):Option (Bool):=kQ.b N (kQ.l2 N N) a0
abbrev mX.bT:=(List (Int))→Int→Option (Bool)
def mX.ec(N:Nat)(cX:mX.bT)(x0:List (Int))(x3:Int):Option (Bool):=
 cond (aG x3 (List.length x0:Int)) (cond (aI x3 (List.length x0)) (cond (aG (List.getD x0 x3.toNat (0:Int)) (1:Int)) (some false) (cond (aI x3 (List.length x0)) (cond (aG 12 (List.getD x0 x3.toNat (0:Int))) (some false) (cond (aG 0 x3) (cond (aI x3 (List.length x0)) (let v2:Int:=W .i64 (x3-1);cond (aI v2 (List.length x0)) (cond (bR (List.getD x0 x3.toNat (0:Int)) (List.getD x0 v2.toNat (0:Int))) (some false) (cX x0 (W .i64 (x3+1)))) (none)) (none)) (cX x0 (W .i64 (x3+1))))) (none))) (none)) (some true)
def mX.l2(N:Nat):Nat→mX.bT
 |0,_,_=>none
 |n+1,x0,x3=>mX.ec N (mX.l2 N n) x0 x3
def mX.b(N:Nat)(fx:mX.bT)(a0:List (Int)):Option (Bool):=
 fx a0 (0:Int)
def mX(N:Nat)(a0:List (Int)):Option (Bool):=mX.b N (mX.l2 N N) a0
abbrev fF.fH:=Int→aY→Int→Int→Option (Int)
abbrev fF.cf:=Int→aY→aE→Int→Int→Option (Int)
def fF.lF(N:Nat)(ik:fF.fH)(x0:Int)(x1:aY)(x7:Int)(aL:Int):Option (Int):=
 cond (aG aL (List.length x1:Int)) (cond (aI aL (List.length x1)) (cond (ay (((((List.getD x1 aL.toNat ((0:Int),(bN,aS))).2).2).2).1) (2:Int)) (cond (aI aL (List.length x1)) (cond (ay ((((((List.getD x1 aL.toNat ((0:Int),(bN,aS))).2).2).2).2).1) x0) (ik x0 x1 (4:Int) (W .i64 (aL+1))) (ik x0 x1 x7 (W .i64 (aL+1)))) (none)) (ik x0 x1 x7 (W .i64 (aL+1)))) (none)) (some x7)
def fF.nh(N:Nat):Nat→fF.fH
 |0,_,_,_,_=>none
 |n+1,x0,x1,x7,aL=>fF.lF N (fF.nh N n) x0 x1 x7 aL
def fF.gZ(N:Nat)(qX:fF.fH)(bQ:fF.cf)(x0:Int)(x1:aY)(x2:aE)(x7:Int)(x8:Int):Option (Int):=
 cond (aG x8 (List.length x2:Int)) (cond (aI x8 (List.length x2)) (cond (!ay ((((List.getD x2 x8.toNat aS).2).2).1) x0) (bQ x0 x1 x2 x7 (W .i64 (x8+1))) (cond (aI x8 (List.length x2)) ((lN N x1 (((List.getD x2 x8.toNat aS).2).1)).bind fun r3=>cond (r3.2) (cond (aI x8 (List.length x2)) (cond (bR r3.1.2.2.1 (((((List.getD x2 x8.toNat aS).2).2).2).1)) (bQ x0 x1 x2 (mx x7 3) (W .i64 (x8+1))) (bQ x0 x1 x2 (mx x7 2) (W .i64 (x8+1)))) (none)) (bQ x0 x1 x2 (mx x7 2) (W .i64 (x8+1)))) (none))) (none)) (qX x0 x1 x7 (0:Int))
def fF.l3(N:Nat):Nat→fF.cf
 |0,_,_,_,_,_=>none
 |n+1,x0,x1,x2,x7,x8=>fF.gZ N (fF.nh N N) (fF.l3 N n) x0 x1 x2 x7 x8
def fF.b(N:Nat)(iI:fF.cf)(a0:Int)(a1:aY)(a2:aE):Option (Int):=
 iI a0 a1 a2 (1:Int) (0:Int)
def fF(N:Nat)(a0:Int)(a1:aY)(a2:aE):Option (Int):=fF.b N (fF.l3 N N) a0 a1 a2
abbrev c6.m9:=av→(List (Int))→aY→aE→av→Int→Int→Bool→Int→Option (av×(Int))
abbrev c6.qY:=av→(List (Int))→aY→aE→av→Int→Int→Bool→Int→Option (av×(Int))
abbrev c6.kd:=av→(List (Int))→aY→aE→av→Int→Int→Bool→Int→Option (av×(Int))
abbrev c6.bg:=av→(List (Int))→aY→aE→av→Int→Option (av×(Int))
def c6.uH(N:Nat)(bb:c6.bg)(uN:c6.m9)(x1:av)(x2:List (Int))(x3:aY)(x4:aE)(aL:av)(bn:Int)(bm:Int)(bU:Bool)(fU:Int):Option (av×(Int)):=
 cond (aG fU (List.length x4:Int)) (cond (bU) (uN x1 x2 x3 x4 aL bn bm true (W .i64 (fU+1))) (cond (aI fU (List.length x4)) (uN x1 x2 x3 x4 aL bn bm (ay ((((List.getD x4 fU.toNat aS).2).2).1) bn) (W .i64 (fU+1))) (none))) (cond (bU) ((fF N bn x3 x4).bind fun ss=>let Pk:Int:=mx bm ss;cond (small (List.length aL+List.length ([(bn,(Pk,()))]))) (bb x1 x2 x3 x4 (aL++([(bn,(Pk,()))])) (W .i64 (bn+1))) (none)) (bb x1 x2 x3 x4 aL (W .i64 (bn+1))))
def c6.xr(N:Nat)(bb:c6.bg):Nat→c6.m9
 |0,_,_,_,_,_,_,_,_,_=>none
 |n+1,x1,x2,x3,x4,aL,bn,bm,bU,fU=>c6.uH N bb (c6.xr N bb n) x1 x2 x3 x4 aL bn bm bU fU
def c6.AJ(N:Nat)(zL:c6.m9)(bb:c6.bg)(wT:c6.qY)(x1:av)(x2:List (Int))(x3:aY)(x4:aE)(aL:av)(bn:Int)(bm:Int)(bU:Bool)(cV:Int):Option (av×(Int)):=
 cond (aG cV (List.length x2:Int)) (cond (bU) (wT x1 x2 x3 x4 aL bn bm true (W .i64 (cV+1))) (cond (aI cV (List.length x2)) (wT x1 x2 x3 x4 aL bn bm (ay (List.getD x2 cV.toNat (0:Int)) bn) (W .i64 (cV+1))) (none))) (zL x1 x2 x3 x4 aL bn bm bU (0:Int))
def c6.DJ(N:Nat)(bb:c6.bg):Nat→c6.qY
 |0,_,_,_,_,_,_,_,_,_=>none
 |n+1,x1,x2,x3,x4,aL,bn,bm,bU,cV=>c6.AJ N (c6.xr N bb N) bb (c6.DJ N bb n) x1 x2 x3 x4 aL bn bm bU cV
def c6.vl(N:Nat)(F1:c6.qY)(bb:c6.bg)(oE:c6.kd)(x1:av)(x2:List (Int))(x3:aY)(x4:aE)(aL:av)(bn:Int)(bm:Int)(bU:Bool)(cG:Int):Option (av×(Int)):=
 cond (aG cG (List.length x1:Int)) (cond (aI cG (List.length x1)) (cond (ay ((List.getD x1 cG.toNat ca).1) bn) (cond (aI cG (List.length x1)) (oE x1 x2 x3 x4 aL bn (((List.getD x1 cG.toNat ca).2).1) true (W .i64 (cG+1))) (none)) (oE x1 x2 x3 x4 aL bn bm bU (W .i64 (cG+1)))) (none)) (F1 x1 x2 x3 x4 aL bn bm bU (0:Int))
def c6.l9(N:Nat)(bb:c6.bg):Nat→c6.kd
 |0,_,_,_,_,_,_,_,_,_=>none
 |n+1,x1,x2,x3,x4,aL,bn,bm,bU,cG=>c6.vl N (c6.DJ N bb N) bb (c6.l9 N bb n) x1 x2 x3 x4 aL bn bm bU cG
def c6.dp(N:Nat)(vJ:c6.kd)(bb:c6.bg)(x1:av)(x2:List (Int))(x3:aY)(x4:aE)(aL:av)(bn:Int):Option (av×(Int)):=
 cond (bR bn 12) (vJ x1 x2 x3 x4 aL bn (0:Int) false (0:Int)) (some (aL,(0:Int)))
def c6.l5(N:Nat):Nat→c6.bg
 |0,_,_,_,_,_,_=>none
 |n+1,x1,x2,x3,x4,aL,bn=>c6.dp N (c6.l9 N (c6.l5 N n) N) (c6.l5 N n) x1 x2 x3 x4 aL bn
def c6.b(N:Nat)(dF:c6.bg)(a0:ae)(a1:av)(a2:List (Int))(a3:aY)(a4:aE):Option (av×(Int)):=
 (kQ N a1).bind fun r1=>cond (!r1) (some ([],(1:Int))) ((mX N a2).bind fun r2=>cond (!r2) (some ([],(1:Int))) ((fb N a0 a3).bind fun r3=>cond (!r3) (some ([],(1:Int))) ((dH N a4).bind fun r4=>cond (!r4) (some ([],(1:Int))) (dF a1 a2 a3 a4 ([]) (1:Int)))))
def c6(N:Nat)(a0:ae)(a1:av)(a2:List (Int))(a3:aY)(a4:aE):Option (av×(Int)):=c6.b N (c6.l5 N N) a0 a1 a2 a3 a4
def IT(N:Nat)(a0:ba)(a1:ag)(a2:Int)(a3:Int)(a4:Int):Option ba:=
 (p4 N a1.2.2.1 a3 a4).bind fun r1=>cond (aG 0 r1) (cond (small (List.length a0+List.length ([(a2,(a3,(a4,(r1,((0:Int),())))))]))) (some (a0++([(a2,(a3,(a4,(r1,((0:Int),())))))]))) (none)) (some a0)
def OT(N:Nat)(a0:Int):Option (Bool):=
 cond (ay a0 1) (some true) (some (ay a0 2))
abbrev mY.aU:=av→Int→Int→Option (Int)
def mY.cj(N:Nat)(br:mY.aU)(x0:av)(x1:Int)(x5:Int):Option (Int):=
 cond (aG x5 (List.length x0:Int)) (cond (aI x5 (List.length x0)) (cond (ay ((List.getD x0 x5.toNat ca).1) x1) (cond (aI x5 (List.length x0)) (some (((List.getD x0 x5.toNat ca).2).1)) (none)) (br x0 x1 (W .i64 (x5+1)))) (none)) (some (1:Int))
def mY.l4(N:Nat):Nat→mY.aU
 |0,_,_,_=>none
 |n+1,x0,x1,x5=>mY.cj N (mY.l4 N n) x0 x1 x5
def mY.b(N:Nat)(cT:mY.aU)(a0:av)(a1:Int):Option (Int):=
 (kQ N a0).bind fun r1=>cond (!r1) (some (0:Int)) (cT a0 a1 (0:Int))
def mY(N:Nat)(a0:av)(a1:Int):Option (Int):=mY.b N (mY.l4 N N) a0 a1
abbrev mZ.bg:=av→Int→Int→ag→(List (Int))→Int→Option ((List (Int))×(Int))
def mZ.dp(N:Nat)(bb:mZ.bg)(x2:av)(x3:Int)(x4:Int)(x6:ag)(aL:List (Int))(bn:Int):Option ((List (Int))×(Int)):=
 cond (aG bn (List.length x6.1:Int)) (cond (aI bn (List.length x6.1)) ((OT N (((List.getD x6.1 bn.toNat ca).2).1)).bind fun r4=>cond (r4) (cond (!ay ((List.getD x6.1 bn.toNat ca).1) x3) ((p4 N x6.2.2.1 (6:Int) ((List.getD x6.1 bn.toNat ca).1)).bind fun r5=>cond (aG 0 r5) ((mY N x2 ((List.getD x6.1 bn.toNat ca).1)).bind fun r6=>cond (ay r6 x4) (cond (small (List.length aL+List.length ([(List.getD x6.1 bn.toNat ca).1]))) (bb x2 x3 x4 x6 (aL++([(List.getD x6.1 bn.toNat ca).1])) (W .i64 (bn+1))) (none)) (bb x2 x3 x4 x6 aL (W .i64 (bn+1)))) (bb x2 x3 x4 x6 aL (W .i64 (bn+1)))) (bb x2 x3 x4 x6 aL (W .i64 (bn+1)))) (bb x2 x3 x4 x6 aL (W .i64 (bn+1)))) (none)) (some (aL,(0:Int)))
def mZ.l5(N:Nat):Nat→mZ.bg
 |0,_,_,_,_,_,_=>none
 |n+1,x2,x3,x4,x6,aL,bn=>mZ.dp N (mZ.l5 N n) x2 x3 x4 x6 aL bn
def mZ.b(N:Nat)(dF:mZ.bg)(a0:ae)(a1:ag)(a2:av)(a3:Int)(a4:Int):Option ((List (Int))×(Int)):=
 (bC N a0 a1).bind fun r1=>cond (!r1) (some ([],(1:Int))) ((kQ N a2).bind fun r2=>cond (!r2) (some ([],(1:Int))) (dF a2 a3 a4 a1 ([]) (0:Int)))
def mZ(N:Nat)(a0:ae)(a1:ag)(a2:av)(a3:Int)(a4:Int):Option ((List (Int))×(Int)):=mZ.b N (mZ.l5 N N) a0 a1 a2 a3 a4
abbrev b7.iQ:=Int→av→av→ae→ag→ba→Int→(List (Int))→Int→Option (ba×(Int))
abbrev b7.zO:=Int→av→ag→ba→Int→Option (ba×(Int))
abbrev b7.oF:=Int→av→ae→ag→ba→Int→Option (ba×(Int))
abbrev b7.fH:=Int→av→av→ae→ag→ba→Int→Option (ba×(Int))
abbrev b7.I4:=Int→av→av→ae→ag→ba→Option (ba×(Int))
def b7.qH(N:Nat)(ik:b7.fH)(jO:b7.iQ)(x2:Int)(x3:av)(x4:av)(x5:ae)(x6:ag)(aL:ba)(bm:Int)(bU:List (Int))(cV:Int):Option (ba×(Int)):=
 cond (aG cV (List.length bU:Int)) (cond (aI cV (List.length bU)) ((IT N aL x6 (W .i64 ((W .i64 ((4:Int)+bm))-1)) (6:Int) (List.getD bU cV.toNat (0:Int))).bind fun ss=>jO x2 x3 x4 x5 x6 ss bm bU (W .i64 (cV+1))) (none)) (ik x2 x3 x4 x5 x6 aL (W .i64 (bm+1)))
def b7.rU(N:Nat)(ik:b7.fH):Nat→b7.iQ
 |0,_,_,_,_,_,_,_,_,_=>none
 |n+1,x2,x3,x4,x5,x6,aL,bm,bU,cV=>b7.qH N ik (b7.rU N ik n) x2 x3 x4 x5 x6 aL bm bU cV
def b7.Fe(N:Nat)(wQ:b7.zO)(x2:Int)(x4:av)(x6:ag)(aL:ba)(L8:Int):Option (ba×(Int)):=
 cond (aG L8 (List.length x4:Int)) (cond (aI L8 (List.length x4)) ((y3 N x6.2.1 ((List.getD x4 L8.toNat ca).1)).bind fun Kp=>cond (aI L8 (List.length x4)) (cond (aI L8 (List.length x4)) ((p4 N x6.2.2.1 (5:Int) ((List.getD x4 L8.toNat ca).1)).bind fun r32=>let v33:Int:=mn (((List.getD x4 L8.toNat ca).2).1) r32;cond (Kp.2) (cond (!ay Kp.1.2.1 x2) (cond (aG 0 v33) (cond (small (List.length aL+List.length ([((9:Int),((5:Int),(Kp.1.1,(v33,((0:Int),())))))]))) (wQ x2 x4 x6 (aL++([((9:Int),((5:Int),(Kp.1.1,(v33,((0:Int),())))))])) (W .i64 (L8+1))) (none)) (wQ x2 x4 x6 aL (W .i64 (L8+1)))) (wQ x2 x4 x6 aL (W .i64 (L8+1)))) (wQ x2 x4 x6 aL (W .i64 (L8+1)))) (none)) (none)) (none)) (some (aL,(0:Int)))
def b7.Is(N:Nat):Nat→b7.zO
 |0,_,_,_,_,_=>none
 |n+1,x2,x4,x6,aL,L8=>b7.Fe N (b7.Is N n) x2 x4 x6 aL L8
def b7.IQ(N:Nat)(Ph:b7.zO)(iU:b7.oF)(x2:Int)(x4:av)(x5:ae)(x6:ag)(aL:ba)(fU:Int):Option (ba×(Int)):=
 cond (aG fU (List.length x6.1:Int)) (cond (aI fU (List.length x6.1)) ((OT N (((List.getD x6.1 fU.toNat ca).2).1)).bind fun F2=>cond (!F2) (iU x2 x4 x5 x6 aL (W .i64 (fU+1))) (cond (ay ((List.getD x6.1 fU.toNat ca).1) x2) (iU x2 x4 x5 x6 aL (W .i64 (fU+1))) ((gf N x5.2.2.1).bind fun HA=>(p4 N x6.2.2.1 (6:Int) ((List.getD x6.1 fU.toNat ca).1)).bind fun zG=>(gf N zG).bind fun DM=>(fR N HA DM).bind fun DN=>(qz N DN).bind fun wR=>cond (!wR.2) (some ([],(2:Int))) (cond (aG 0 wR.1) (cond (small (List.length aL+List.length ([((8:Int),((7:Int),((List.getD x6.1 fU.toNat ca).1,(wR.1,((0:Int),())))))]))) (iU x2 x4 x5 x6 (aL++([((8:Int),((7:Int),((List.getD x6.1 fU.toNat ca).1,(wR.1,((0:Int),())))))])) (W .i64 (fU+1))) (none)) (iU x2 x4 x5 x6 aL (W .i64 (fU+1))))))) (none)) (Ph x2 x4 x6 aL (0:Int))
def b7.Di(N:Nat):Nat→b7.oF
 |0,_,_,_,_,_,_=>none
 |n+1,x2,x4,x5,x6,aL,fU=>b7.IQ N (b7.Is N N) (b7.Di N n) x2 x4 x5 x6 aL fU
def b7.lF(N:Nat)(zI:b7.iQ)(Pp:b7.oF)(ik:b7.fH)(x2:Int)(x3:av)(x4:av)(x5:ae)(x6:ag)(aL:ba)(bm:Int):Option (ba×(Int)):=
 cond (bR bm 4) ((mZ N x5 x6 x3 x2 bm).bind fun kT=>zI x2 x3 x4 x5 x6 aL bm kT.1 (0:Int)) (Pp x2 x4 x5 x6 aL (0:Int))
def b7.nh(N:Nat):Nat→b7.fH
 |0,_,_,_,_,_,_,_=>none
 |n+1,x2,x3,x4,x5,x6,aL,bm=>b7.lF N (b7.rU N (b7.nh N n) N) (b7.Di N N) (b7.nh N n) x2 x3 x4 x5 x6 aL bm
def b7.H7(N:Nat)(qX:b7.fH)(x2:Int)(x3:av)(x4:av)(x5:ae)(x6:ag)(aL:ba):Option (ba×(Int)):=
 (IT N aL x6 (2:Int) (6:Int) x2).bind fun r8=>(IT N r8 x6 (3:Int) (3:Int) (0:Int)).bind fun r9=>qX x2 x3 x4 x5 x6 r9 (1:Int)
def b7.j9(N:Nat)(x2:Int)(x3:av)(x4:av)(x5:ae)(x6:ag)(aL:ba):Option (ba×(Int)):=b7.H7 N (b7.nh N N) x2 x3 x4 x5 x6 aL
def b7.b(N:Nat)(zQ:b7.I4)(a0:ae)(a1:ag)(a2:Int)(a3:av)(a4:av):Option (ba×(Int)):=
 (bC N a0 a1).bind fun r1=>cond (!r1) (some ([],(1:Int))) ((kQ N a3).bind fun r2=>cond (!r2) (some ([],(1:Int))) ((lM N a4).bind fun r3=>cond (!r3) (some ([],(1:Int))) ((ub N a1.1 a2).bind fun r4=>cond (ay r4 0) (some ([],(3:Int))) ((sQ N a1.2.1 a2).bind fun r5=>cond (!ay r5 0) ((IT N ([]) a1 (1:Int) (5:Int) r5).bind fun r6=>zQ a2 a3 a4 a0 a1 r6) (zQ a2 a3 a4 a0 a1 ([]))))))
def b7(N:Nat)(a0:ae)(a1:ag)(a2:Int)(a3:av)(a4:av):Option (ba×(Int)):=b7.b N (b7.j9 N) a0 a1 a2 a3 a4
def RZ(N:Nat)(a0:ae)(a1:ag):Option ((Int)×(Int)):=
 (bC N a0 a1).bind fun r1=>cond (!r1) (some ((0:Int),(1:Int))) ((p4 N a1.2.2.1 (2:Int) (0:Int)).bind fun r2=>cond (ay r2 (-9223372036854775808)) (some ((0:Int),(2:Int))) (some ((mx (W .i64 (0-r2)) (0:Int)),(0:Int))))
abbrev m0.aU:=ba→Int→Option (Bool)
def m0.cj(N:Nat)(br:m0.aU)(x0:ba)(x3:Int):Option (Bool):=
 cond (aG x3 (List.length x0:Int)) (cond (aI x3 (List.length x0)) (cond (aG ((List.getD x0 x3.toNat jR).1) (1:Int)) (some false) (cond (aG 9 ((List.getD x0 x3.toNat jR).1)) (some false) ((Ic N (((List.getD x0 x3.toNat jR).2).1) ((((List.getD x0 x3.toNat jR).2).2).1)).bind fun r2=>cond (!r2) (some false) (cond (aG (((((List.getD x0 x3.toNat jR).2).2).2).1) (1:Int)) (some false) (cond (aG ((((((List.getD x0 x3.toNat jR).2).2).2).2).1) (0:Int)) (some false) (cond (aG (((((List.getD x0 x3.toNat jR).2).2).2).1) ((((((List.getD x0 x3.toNat jR).2).2).2).2).1)) (some false) (cond (aG 0 x3) (let v3:Int:=W .i64 (x3-1);cond (aI v3 (List.length x0)) (cond (aG ((List.getD x0 x3.toNat jR).1) ((List.getD x0 v3.toNat jR).1)) (some false) (let v4:Int:=W .i64 (x3-1);cond (aI v4 (List.length x0)) (cond (ay ((List.getD x0 x3.toNat jR).1) ((List.getD x0 v4.toNat jR).1)) (let v5:Int:=W .i64 (x3-1);cond (aI v5 (List.length x0)) (cond (!ay (((List.getD x0 x3.toNat jR).2).1) (((List.getD x0 v5.toNat jR).2).1)) (some false) (let v6:Int:=W .i64 (x3-1);cond (aI v6 (List.length x0)) (cond (bR ((((List.getD x0 x3.toNat jR).2).2).1) ((((List.getD x0 v6.toNat jR).2).2).1)) (some false) (br x0 (W .i64 (x3+1)))) (none))) (none)) (br x0 (W .i64 (x3+1)))) (none))) (none)) (br x0 (W .i64 (x3+1)))))))))) (none)) (some true)
def m0.l4(N:Nat):Nat→m0.aU
 |0,_,_=>none
 |n+1,x0,x3=>m0.cj N (m0.l4 N n) x0 x3
def m0.b(N:Nat)(cT:m0.aU)(a0:ba):Option (Bool):=
 cond (aG 64 (List.length a0:Int)) (some false) (cT a0 (0:Int))
def m0(N:Nat)(a0:ba):Option (Bool):=m0.b N (m0.l4 N N) a0
abbrev cy.m9:=ba→Int→Int→Int→(List (Int))→Int→Option (ba×(Int)×(Int))
abbrev cy.FZ:=ba→Int→Int→Int→(List (Int))→Option (ba×(Int)×(Int))
abbrev cy.fy:=ba→Int→Int→Int→(List (Int))→Option (ba×(Int)×(Int))
abbrev cy.bg:=ba→Int→Int→Option (ba×(Int)×(Int))
def cy.uH(N:Nat)(bb:cy.bg)(uN:cy.m9)(x7:ba)(x8:Int)(x9:Int)(aO:Int)(bm:List (Int))(cG:Int):Option (ba×(Int)×(Int)):=
 cond (aG cG aO) (let W9:Int:=W .i64 (cG-x9);cond (aI W9 (List.length bm)) (cond (aI cG (List.length x7)) (let Mm:Int:=W .i64 (cG-x9);cond (aI Mm (List.length bm)) (uN (List.set x7 cG.toNat ((List.getD x7 cG.toNat jR).1,(((List.getD x7 cG.toNat jR).2).1,((((List.getD x7 cG.toNat jR).2).2).1,(((((List.getD x7 cG.toNat jR).2).2).2).1,(List.getD bm W9.toNat (0:Int),(((((List.getD x7 cG.toNat jR).2).2).2).2).2)))))) (W .i64 (x8-(List.getD bm Mm.toNat (0:Int)))) x9 aO bm (W .i64 (cG+1))) (none)) (none)) (none)) (bb x7 x8 aO)
def cy.xr(N:Nat)(bb:cy.bg):Nat→cy.m9
 |0,_,_,_,_,_,_=>none
 |n+1,x7,x8,x9,aO,bm,cG=>cy.uH N bb (cy.xr N bb n) x7 x8 x9 aO bm cG
def cy.zB(N:Nat)(zL:cy.m9)(bb:cy.bg)(x7:ba)(x8:Int)(x9:Int)(aO:Int)(aH:List (Int)):Option (ba×(Int)×(Int)):=
 (kZ N aH).bind fun r8=>(qz N r8).bind fun r9=>cond (!r9.2) (some ([],(0:Int),(2:Int))) ((du N (mn r9.1 x8) aH).bind fun kT=>cond (!ay kT.2 0) (some ([],(0:Int),kT.2)) (zL x7 x8 x9 aO kT.1 x9))
def cy.Hw(N:Nat)(bb:cy.bg)(x7:ba)(x8:Int)(x9:Int)(aO:Int)(aH:List (Int)):Option (ba×(Int)×(Int)):=cy.zB N (cy.xr N bb N) bb x7 x8 x9 aO aH
def cy.xR(N:Nat)(wS:cy.FZ)(bb:cy.bg)(dy:cy.fy)(x7:ba)(x8:Int)(x9:Int)(aO:Int)(aH:List (Int)):Option (ba×(Int)×(Int)):=
 cond (aG aO (List.length x7:Int)) (cond (aI aO (List.length x7)) (cond (aI x9 (List.length x7)) (cond (ay ((List.getD x7 aO.toNat jR).1) ((List.getD x7 x9.toNat jR).1)) (cond (aI aO (List.length x7)) (cond (small (List.length aH+List.length ([((((List.getD x7 aO.toNat jR).2).2).2).1]))) (dy x7 x8 x9 (W .i64 (aO+1)) (aH++([((((List.getD x7 aO.toNat jR).2).2).2).1]))) (none)) (none)) (wS x7 x8 x9 aO aH)) (none)) (none)) (wS x7 x8 x9 aO aH)
def cy.l8(N:Nat)(bb:cy.bg):Nat→cy.fy
 |0,_,_,_,_,_=>none
 |n+1,x7,x8,x9,aO,aH=>cy.xR N (cy.Hw N bb) bb (cy.l8 N bb n) x7 x8 x9 aO aH
def cy.dp(N:Nat)(zR:cy.fy)(bb:cy.bg)(x7:ba)(x8:Int)(x9:Int):Option (ba×(Int)×(Int)):=
 cond (aG x9 (List.length x7:Int)) (zR x7 x8 x9 x9 ([])) (some (x7,x8,(0:Int)))
def cy.l5(N:Nat):Nat→cy.bg
 |0,_,_,_=>none
 |n+1,x7,x8,x9=>cy.dp N (cy.l8 N (cy.l5 N n) N) (cy.l5 N n) x7 x8 x9
def cy.b(N:Nat)(dF:cy.bg)(a0:ba)(a1:Int):Option (ba×(Int)×(Int)):=
 (m0 N a0).bind fun r1=>cond (!r1) (some ([],(0:Int),(1:Int))) (cond (aG a1 0) (some ([],(0:Int),(1:Int))) (cond (small (List.length xG+List.length a0)) (dF (xG++a0) a1 (0:Int)) (none)))
def cy(N:Nat)(a0:ba)(a1:Int):Option (ba×(Int)×(Int)):=cy.b N (cy.l5 N N) a0 a1
def R1(N:Nat)(a0:ae)(a1:ag):Option ((Int)×(Int)):=
 (bC N a0 a1).bind fun r1=>cond (!r1) (some ((0:Int),(1:Int))) ((p4 N a1.2.2.1 (2:Int) (0:Int)).bind fun r2=>some ((mx r2 0),(0:Int)))
abbrev gM.ae0:=ag→ag→cR→bk→cR→ba→Int→Int→Int→Option (ag×cR×(Int))
abbrev gM.zT:=Int→ae→ag→ag→cR→ba→Int→bk→cR→ba→Int→Option (ag×cR×(Int))
def gM.Y8(N:Nat)(x6:ag)(aO:ag)(aH:cR)(fU:bk)(kR:cR)(zV:ba)(x21:Int)(x23:Int)(x24:Int):Option (ag×cR×(Int)):=
 (gf N x21).bind fun uX=>(zC N (2:Int) (0:Int) x23 x24 uX).bind fun uY=>cond (small (List.length fU+List.length uY)) ((uw N x6 bq (fU++uY)).bind fun FY=>cond (!ay FY.2 0) (some ((bN,(cI,(bq,(bq,(c3,(de,())))))),((0:Int),((0:Int),(xG,((0:Int),())))),FY.2)) (some (FY.1,(kR.1,(kR.2.1,(zV,kR.2.2.2))),(0:Int)))) (none)
def gM.j26(N:Nat)(x6:ag)(aO:ag)(aH:cR)(fU:bk)(kR:cR)(zV:ba)(x21:Int)(x23:Int)(x24:Int):Option (ag×cR×(Int)):=gM.Y8 N x6 aO aH fU kR zV x21 x23 x24
def gM.CW(N:Nat)(Xc:gM.ae0)(B2:gM.zT)(x2:Int)(x5:ae)(x6:ag)(aO:ag)(aH:cR)(bn:ba)(cV:Int)(fU:bk)(kR:cR)(zV:ba)(HB:Int):Option (ag×cR×(Int)):=
 cond (aG HB (List.length bn:Int)) (cond (aI HB (List.length bn)) (cond (aG 0 ((((((List.getD bn HB.toNat jR).2).2).2).2).1)) (cond (aI HB (List.length bn)) (cond (small (List.length zV+List.length ([List.getD bn HB.toNat jR]))) (cond (aI HB (List.length bn)) (cond (aI HB (List.length bn)) (cond (aI HB (List.length bn)) ((gf N ((((((List.getD bn HB.toNat jR).2).2).2).2).1)).bind fun r6=>(zC N (((List.getD bn HB.toNat jR).2).1) ((((List.getD bn HB.toNat jR).2).2).1) (2:Int) (0:Int) r6).bind fun r7=>cond (small (List.length fU+List.length r7)) (B2 x2 x5 x6 aO aH bn cV (fU++r7) (kR.1,(kR.2.1,(xG,kR.2.2.2))) (zV++([List.getD bn HB.toNat jR])) (W .i64 (HB+1))) (none)) (none)) (none)) (none)) (none)) (none)) (B2 x2 x5 x6 aO aH bn cV fU kR zV (W .i64 (HB+1)))) (none)) ((gf N cV).bind fun kT=>(zC N (4:Int) (0:Int) (2:Int) (0:Int) kT).bind fun ma=>cond (small (List.length fU+List.length ma)) (let W9:List ((Int)×((Int)×(((Bool)×((List (Int))×(Unit)))×(Unit)))):=fU++ma;(R1 N x5 x6).bind fun n8=>(sQ N x6.2.1 x2).bind fun ss=>cond (!ay ss 0) (Xc x6 aO aH W9 kR zV n8.1 (5:Int) ss) (Xc x6 aO aH W9 kR zV n8.1 (6:Int) x2)) (none))
def gM.DI(N:Nat):Nat→gM.zT
 |0,_,_,_,_,_,_,_,_,_,_,_=>none
 |n+1,x2,x5,x6,aO,aH,bn,cV,fU,kR,zV,HB=>gM.CW N (gM.j26 N) (gM.DI N n) x2 x5 x6 aO aH bn cV fU kR zV HB
def gM.b(N:Nat)(Pm:gM.zT)(a0:ae)(a1:ag)(a2:Int)(a3:av)(a4:av):Option (ag×cR×(Int)):=
 (b7 N a0 a1 a2 a3 a4).bind fun r1=>cond (ay r1.2 1) (some ((bN,(cI,(bq,(bq,(c3,(de,())))))),((0:Int),((0:Int),(xG,((0:Int),())))),r1.2)) (cond (ay r1.2 3) (some ((bN,(cI,(bq,(bq,(c3,(de,())))))),((0:Int),((0:Int),(xG,((0:Int),())))),r1.2)) ((RZ N a0 a1).bind fun r2=>cond (!ay r2.2 0) (some ((bN,(cI,(bq,(bq,(c3,(de,())))))),((0:Int),((0:Int),(xG,((0:Int),())))),r2.2)) (cond (!ay r1.2 0) (some ((bN,(cI,(bq,(bq,(c3,(de,())))))),((0:Int),((0:Int),(xG,((0:Int),())))),r1.2)) ((cy N r1.1 r2.1).bind fun r3=>cond (!ay r3.2.2 0) (some ((bN,(cI,(bq,(bq,(c3,(de,())))))),((0:Int),((0:Int),(xG,((0:Int),())))),r3.2.2)) (Pm a2 a0 a1 (bN,(cI,(bq,(bq,(c3,(de,())))))) ((0:Int),((0:Int),(xG,((0:Int),())))) r3.1 r3.2.1 ([]) (a2,(r2.1,(xG,(r3.2.1,())))) xG (0:Int))))))
def gM(N:Nat)(a0:ae)(a1:ag)(a2:Int)(a3:av)(a4:av):Option (ag×cR×(Int)):=gM.b N (gM.DI N N) a0 a1 a2 a3 a4
abbrev c0.zN:=(List (Int))→(List (Int))→(List (Int))→Int→Int→(List (Int))→Int→Option ((List (Int))×(Int)×(Int))
abbrev c0.fH:=(List (Int))→(List (Int))→(List (Int))→Int→Int→(List (Int))→Bool→Int→Option ((List (Int))×(Int)×(Int))
abbrev c0.fy:=(List (Int))→(List (Int))→(List (Int))→Int→Int→Option ((List (Int))×(Int)×(Int))
def c0.It(N:Nat)(dy:c0.fy)(Pg:c0.zN)(x1:List (Int))(x2:List (Int))(aH:List (Int))(aL:Int)(bn:Int)(cV:List (Int))(kR:Int):Option ((List (Int))×(Int)×(Int)):=
 cond (aG kR (List.length x1:Int)) (cond (aI kR (List.length cV)) (cond (aI kR (List.length x2)) (cond (aI kR (List.length aH)) (let Pk:Int:=mn (List.getD cV kR.toNat (0:Int)) (W .i64 ((List.getD x2 kR.toNat (0:Int))-(List.getD aH kR.toNat (0:Int))));cond (aI kR (List.length aH)) (cond (aI kR (List.length aH)) (Pg x1 x2 (List.set aH kR.toNat (W .i64 ((List.getD aH kR.toNat (0:Int))+Pk))) (W .i64 (aL-Pk)) bn cV (W .i64 (kR+1))) (none)) (none)) (none)) (none)) (none)) (dy x1 x2 aH aL (W .i64 (bn+1)))
def c0.Lr(N:Nat)(dy:c0.fy):Nat→c0.zN
 |0,_,_,_,_,_,_,_=>none
 |n+1,x1,x2,aH,aL,bn,cV,kR=>c0.It N dy (c0.Lr N dy n) x1 x2 aH aL bn cV kR
def c0.lF(N:Nat)(Pj:c0.zN)(dy:c0.fy)(ik:c0.fH)(x1:List (Int))(x2:List (Int))(aH:List (Int))(aL:Int)(bn:Int)(bm:List (Int))(bU:Bool)(cG:Int):Option ((List (Int))×(Int)×(Int)):=
 cond (aG cG (List.length x1:Int)) (cond (aI cG (List.length x1)) (cond (aG 0 (List.getD x1 cG.toNat (0:Int))) (cond (aI cG (List.length aH)) (cond (aI cG (List.length x2)) (cond (aG (List.getD aH cG.toNat (0:Int)) (List.getD x2 cG.toNat (0:Int))) (cond (aI cG (List.length x1)) (cond (aI cG (List.length bm)) (ik x1 x2 aH aL bn (List.set bm cG.toNat (List.getD x1 cG.toNat (0:Int))) true (W .i64 (cG+1))) (none)) (none)) (ik x1 x2 aH aL bn bm bU (W .i64 (cG+1)))) (none)) (none)) (ik x1 x2 aH aL bn bm bU (W .i64 (cG+1)))) (none)) (cond (ay aL 0) (some (aH,aL,(0:Int))) (cond (!bU) (some (aH,aL,(0:Int))) ((du N aL bm).bind fun nu=>Pj x1 x2 aH aL bn nu.1 (0:Int))))
def c0.nh(N:Nat)(dy:c0.fy):Nat→c0.fH
 |0,_,_,_,_,_,_,_,_=>none
 |n+1,x1,x2,aH,aL,bn,bm,bU,cG=>c0.lF N (c0.Lr N dy N) dy (c0.nh N dy n) x1 x2 aH aL bn bm bU cG
def c0.xR(N:Nat)(qX:c0.fH)(dy:c0.fy)(x1:List (Int))(x2:List (Int))(aH:List (Int))(aL:Int)(bn:Int):Option ((List (Int))×(Int)×(Int)):=
 cond (bR bn (List.length x1:Int)) (cond (dS (List.length x1:Int) (List.length x1:Int)) (qX x1 x2 aH aL bn (List.replicate (List.length x1:Int).toNat (0:Int)) false (0:Int)) (none)) (some (aH,aL,(0:Int)))
def c0.l8(N:Nat):Nat→c0.fy
 |0,_,_,_,_,_=>none
 |n+1,x1,x2,aH,aL,bn=>c0.xR N (c0.nh N (c0.l8 N n) N) (c0.l8 N n) x1 x2 aH aL bn
def c0.b(N:Nat)(zR:c0.fy)(a0:Int)(a1:List (Int))(a2:List (Int)):Option ((List (Int))×(Int)×(Int)):=
 (la N a0 a1).bind fun r1=>cond (r1) (some ([],(0:Int),(1:Int))) (cond (!ay (List.length a2:Int) (List.length a1:Int)) (some ([],(0:Int),(1:Int))) ((la N (0:Int) a2).bind fun r2=>cond (r2) (some ([],(0:Int),(1:Int))) ((kZ N a1).bind fun r3=>(qz N r3).bind fun r4=>cond (!r4.2) (some ([],(0:Int),(2:Int))) (cond (dS (List.length a1:Int) (List.length a1:Int)) (zR a1 a2 (List.replicate (List.length a1:Int).toNat (0:Int)) a0 (0:Int)) (none)))))
def c0(N:Nat)(a0:Int)(a1:List (Int))(a2:List (Int)):Option ((List (Int))×(Int)×(Int)):=c0.b N (c0.l8 N N) a0 a1 a2
abbrev jN.qV:=Int→Int→(List (Int))→(List (Int))→ah→Int→Option (ah×(Int))
abbrev jN.nf:=Int→ag→Int→(List (Int))→(List (Int))→Int→Option (ah×(Int))
def jN.uC(N:Nat)(qW:jN.qV)(x2:Int)(x8:Int)(x9:List (Int))(bn:List (Int))(cG:ah)(cV:Int):Option (ah×(Int)):=
 cond (aG cV (List.length bn:Int)) (cond (aI cV (List.length bn)) (cond (aG x8 0) (let P2:Int:=W .i64 (0-(List.getD bn cV.toNat (0:Int)));cond (!ay P2 0) (cond (aI cV (List.length x9)) (cond (small (List.length cG+List.length ([(List.getD x9 cV.toNat (0:Int),(x2,(P2,())))]))) (qW x2 x8 x9 bn (cG++([(List.getD x9 cV.toNat (0:Int),(x2,(P2,())))])) (W .i64 (cV+1))) (none)) (none)) (qW x2 x8 x9 bn cG (W .i64 (cV+1)))) (cond (!ay (List.getD bn cV.toNat (0:Int)) (0:Int)) (cond (aI cV (List.length x9)) (cond (small (List.length cG+List.length ([(List.getD x9 cV.toNat (0:Int),(x2,(List.getD bn cV.toNat (0:Int),())))]))) (qW x2 x8 x9 bn (cG++([(List.getD x9 cV.toNat (0:Int),(x2,(List.getD bn cV.toNat (0:Int),())))])) (W .i64 (cV+1))) (none)) (none)) (qW x2 x8 x9 bn cG (W .i64 (cV+1))))) (none)) (some (cG,(0:Int)))
def jN.sX(N:Nat):Nat→jN.qV
 |0,_,_,_,_,_,_=>none
 |n+1,x2,x8,x9,bn,cG,cV=>jN.uC N (jN.sX N n) x2 x8 x9 bn cG cV
def jN.pW(N:Nat)(FV:jN.qV)(nQ:jN.nf)(x2:Int)(x4:ag)(x8:Int)(x9:List (Int))(aO:List (Int))(aH:Int):Option (ah×(Int)):=
 cond (aG aH (List.length x4.2.2.2.1:Int)) (cond (aI aH (List.length x4.2.2.2.1)) (cond (!ay ((List.getD x4.2.2.2.1 aH.toNat aR).1) (0:Int)) (cond (ay (((List.getD x4.2.2.2.1 aH.toNat aR).2).1) x2) (cond (!(kV .bool (aG 0 ((((List.getD x4.2.2.2.1 aH.toNat aR).2).2).1)) (aG 0 x8))) (cond (small (List.length x9+List.length ([(List.getD x4.2.2.2.1 aH.toNat aR).1]))) (let v6:Int:=mx ((((List.getD x4.2.2.2.1 aH.toNat aR).2).2).1) (W .i64 (0-((((List.getD x4.2.2.2.1 aH.toNat aR).2).2).1)));cond (small (List.length aO+List.length ([v6]))) (nQ x2 x4 x8 (x9++([(List.getD x4.2.2.2.1 aH.toNat aR).1])) (aO++([v6])) (W .i64 (aH+1))) (none)) (none)) (nQ x2 x4 x8 x9 aO (W .i64 (aH+1)))) (nQ x2 x4 x8 x9 aO (W .i64 (aH+1)))) (nQ x2 x4 x8 x9 aO (W .i64 (aH+1)))) (none)) ((c0 N (mx x8 (W .i64 (0-x8))) aO aO).bind fun n8=>cond (!ay n8.2.2 0) (some ([],n8.2.2)) (FV x2 x8 x9 n8.1 ([((0:Int),(x2,((W .i64 (0-x8)),())))]) (0:Int)))
def jN.s4(N:Nat):Nat→jN.nf
 |0,_,_,_,_,_,_=>none
 |n+1,x2,x4,x8,x9,aO,aH=>jN.pW N (jN.sX N N) (jN.s4 N n) x2 x4 x8 x9 aO aH
def jN.b(N:Nat)(zM:jN.nf)(a0:ae)(a1:ag)(a2:Int):Option (ah×(Int)):=
 (bC N a0 a1).bind fun r1=>cond (!r1) (some ([],(1:Int))) (cond (aG a2 0) (some ([],(3:Int))) (cond (bR (List.length a0.1:Int) a2) (some ([],(3:Int))) ((wF N a1.2.2.2.1 (0:Int) a2).bind fun r2=>cond (ay r2 0) (some ([],(0:Int))) (zM a2 a1 r2 ([]) ([]) (0:Int)))))
def jN(N:Nat)(a0:ae)(a1:ag)(a2:Int):Option (ah×(Int)):=jN.b N (jN.s4 N N) a0 a1 a2
abbrev tc.bg:=ae→ag→ag→ah→Int→Option (ag×(Int))
def tc.dp(N:Nat)(bb:tc.bg)(x2:ae)(x3:ag)(x4:ag)(x6:ah)(x7:Int):Option (ag×(Int)):=
 cond (aG x7 (List.length x2.1:Int)) ((jN N x2 x3 x7).bind fun r3=>cond (!ay r3.2 0) (some ((bN,(cI,(bq,(bq,(c3,(de,())))))),r3.2)) (cond (small (List.length x6+List.length r3.1)) (bb x2 x3 x4 (x6++r3.1) (W .i64 (x7+1))) (none))) ((uw N x3 x6 ([]:List ((Int)×((Int)×(((Bool)×((List (Int))×(Unit)))×(Unit)))))).bind fun r6=>some (r6.1,r6.2))
def tc.l5(N:Nat):Nat→tc.bg
 |0,_,_,_,_,_=>none
 |n+1,x2,x3,x4,x6,x7=>tc.dp N (tc.l5 N n) x2 x3 x4 x6 x7
def tc.b(N:Nat)(dF:tc.bg)(a0:ae)(a1:ag):Option (ag×(Int)):=
 (bC N a0 a1).bind fun r1=>cond (!r1) (some ((bN,(cI,(bq,(bq,(c3,(de,())))))),(1:Int))) (dF a0 a1 (bN,(cI,(bq,(bq,(c3,(de,())))))) ([]) (0:Int))
def tc(N:Nat)(a0:ae)(a1:ag):Option (ag×(Int)):=tc.b N (tc.l5 N N) a0 a1
abbrev qZ.Pq:=aT→aT→cE→aY→Int→Int→Option (aT×cE)
def qZ.ae1(N:Nat)(Xd:qZ.Pq)(x4:aT)(x6:aT)(x7:cE)(bm:aY)(cG:Int)(cV:Int):Option (aT×cE):=
 cond (aG cV (List.length bm:Int)) (cond (aI cV (List.length bm)) (cond (ay (((((List.getD bm cV.toNat ((0:Int),(bN,aS))).2).2).2).1) (2:Int)) (Xd x4 x6 x7 bm (W .i64 (cG+1)) (W .i64 (cV+1))) (Xd x4 x6 x7 bm cG (W .i64 (cV+1)))) (none)) (some (x4,((0:Int),(cG,((0:Int),())))))
def qZ.l41(N:Nat):Nat→qZ.Pq
 |0,_,_,_,_,_,_=>none
 |n+1,x4,x6,x7,bm,cG,cV=>qZ.ae1 N (qZ.l41 N n) x4 x6 x7 bm cG cV
def qZ.b(N:Nat)(ae2:qZ.Pq)(a0:ae)(a1:aT)(a2:gm):Option (aT×cE):=
 cond (ay a2.1 14) ((RW N a0 a1.2.2.1 a1.2.2.2.1.1 a2.2.1 a2.2.2.1).bind fun r1=>(ei N r1.2).bind fun r2=>some ((a1.1,(a1.2.1,(r1.1,a1.2.2.2))),r2)) (cond (ay a2.1 15) ((fG N a0 a1.2.2.1 a1.2.2.2.1.1).bind fun r3=>(ei N r3.2).bind fun r4=>some ((a1.1,(a1.2.1,(r3.1,((a1.2.2.2.1.1,((2:Int),((0:Int),a1.2.2.2.1.2.2.2))),a1.2.2.2.2)))),r4)) (cond (ay a2.1 16) ((pt N a0 a1.2.2.1 a1.2.1).bind fun r5=>some ((a1.1,((W .i64 (a1.2.1+(List.length r5.1:Int))),(a1.2.2.1,((a1.2.2.2.1.1,(a1.2.2.2.1.2.1,(a1.2.2.2.1.2.2.1,(a1.2.2.2.1.2.2.2.1,(r5.1,a1.2.2.2.1.2.2.2.2.2))))),a1.2.2.2.2)))),(r5.2,((List.length r5.1:Int),((0:Int),()))))) (cond (ay a2.1 17) ((m4 N a0 a1 a2).bind fun r7=>some (r7.1,r7.2)) (cond (ay a2.1 18) (cond (ay a1.2.2.2.1.2.2.2.1 3) ((ei N (5:Int)).bind fun r8=>some (a1,r8)) ((cP N a0 a1.2.2.1 a1.2.1).bind fun r9=>cond (!ay r9.2 0) ((ei N r9.2).bind fun jF=>some (a1,jF)) ((LV N a1 a0.2.2.2.2.1).bind fun kT=>cond (!kT.2) ((ei N (2:Int)).bind fun ma=>some (a1,ma)) ((mW N a0 a1.2.2.1).bind fun n8=>some ((a1.1,((W .i64 (a1.2.1+(List.length r9.1:Int))),(a1.2.2.1,((a1.2.2.2.1.1,((3:Int),(kT.1,((W .i64 (a1.2.2.2.1.2.2.2.1+1)),(cI,(r9.1,(cI,(n8.1,a1.2.2.2.1.2.2.2.2.2.2.2.2)))))))),a1.2.2.2.2)))),((0:Int),((List.length r9.1:Int),((0:Int),())))))))) (cond (ay a2.1 19) ((aeZ N a0 a1.2.2.1 a1.2.2.2.1.2.2.2.2.2.1 a1.2.2.2.1.2.2.2.2.2.2.1 (a1.2.1,(a2.2.2.2.2.2.1,(a2.2.1,(a2.2.2.2.2.2.2.2.1,()))))).bind fun vI=>let P2:Int:=W .i64 (a1.2.1+1);some ((a1.1,(P2,(a1.2.2.1,((a1.2.2.2.1.1,(a1.2.2.2.1.2.1,(a1.2.2.2.1.2.2.1,(a1.2.2.2.1.2.2.2.1,(a1.2.2.2.1.2.2.2.2.1,(a1.2.2.2.1.2.2.2.2.2.1,(vI.1,a1.2.2.2.1.2.2.2.2.2.2.2))))))),a1.2.2.2.2)))),(vI.2,((W .i64 (P2-1)),((0:Int),()))))) (cond (ay a2.1 20) ((su N a0 a1.2.2.1 a1.2.2.2.1.2.2.2.2.2.1 a1.2.2.2.1.2.2.2.2.2.2.1).bind fun F2=>cond (!ay F2.2.2 0) ((ei N F2.2.2).bind fun FY=>some (a1,FY)) ((c6 N a0 a1.2.2.2.1.2.2.2.2.2.2.2.2.1 a1.2.2.2.1.2.2.2.2.2.2.2.1 F2.2.1 a1.2.2.2.1.2.2.2.2.2.2.1).bind fun Hy=>ae2 (a1.1,(a1.2.1,(F2.1,((a1.2.2.2.1.1,((2:Int),((0:Int),(a1.2.2.2.1.2.2.2.1,(a1.2.2.2.1.2.2.2.2.1,(F2.2.1,(a1.2.2.2.1.2.2.2.2.2.2.1,(a1.2.2.2.1.2.2.2.2.2.2.2.1,(Hy.1,a1.2.2.2.1.2.2.2.2.2.2.2.2.2))))))))),a1.2.2.2.2)))) ((0:Int),((0:Int),((bN,(cI,(bq,(bq,(c3,(de,())))))),(((0:Int),((0:Int),((0:Int),((0:Int),(cI,(([]:List ((Int)×((List ((Int)×((Int)×(Unit))))×((Int)×((Int)×((Int)×((Int)×(Unit)))))))),(cI,(c3,(bN,(bN,())))))))))),(((0:Int),((0:Int),(xG,((0:Int),())))),()))))) aR F2.2.1 (0:Int) (0:Int))) (cond (ay a2.1 21) ((gM N a0 a1.2.2.1 a1.2.2.2.1.1 a1.2.2.2.1.2.2.2.2.2.2.2.2.1 a1.2.2.2.1.2.2.2.2.2.2.2.2.2.1).bind fun wR=>cond (!ay wR.2.2 0) ((ei N wR.2.2).bind fun L7=>some (a1,L7)) ((tc N a0 wR.1).bind fun W6=>cond (!ay W6.2 0) ((ei N W6.2).bind fun B0=>some (a1,B0)) ((kP N W6.1.1 a1.2.2.2.1.1 a2.1).bind fun I3=>some ((a1.1,(a1.2.1,((I3.1,W6.1.2),(((0:Int),((0:Int),((0:Int),((0:Int),(cI,(([]:List ((Int)×((List ((Int)×((Int)×(Unit))))×((Int)×((Int)×((Int)×((Int)×(Unit)))))))),(cI,(c3,(bN,(bN,())))))))))),(wR.2.1,a1.2.2.2.2.2))))),(I3.2,((0:Int),(wR.2.1.2.1,()))))))) ((ei N (0:Int)).bind fun Kp=>some (a1,Kp)))))))))
def qZ(N:Nat)(a0:ae)(a1:aT)(a2:gm):Option (aT×cE):=qZ.b N (qZ.l41 N N) a0 a1 a2
abbrev vK.Po:=ae→aT→gm→aT→cE→Option (aT×cE)
def vK.LM(N:Nat)(x3:ae)(x4:aT)(x5:gm)(x6:aT)(x7:cE):Option (aT×cE):=
 (R4 N x4 x5.1).bind fun L7=>cond (!L7) ((ei N (6:Int)).bind fun W6=>some (x4,W6)) ((qZ N x3 x4 x5).bind fun B0=>some (B0.1,B0.2))
def vK.RY(N:Nat)(x3:ae)(x4:aT)(x5:gm)(x6:aT)(x7:cE):Option (aT×cE):=vK.LM N x3 x4 x5 x6 x7
def vK.b(N:Nat)(F3:vK.Po)(a0:ae)(a1:aT)(a2:gm):Option (aT×cE):=
 cond (ay a2.1 11) ((kP N a1.2.2.1.1 a2.2.1 a2.1).bind fun r1=>cond (ay r1.2 0) (cond (ay a2.1 11) ((OK N a0 (r1.1,a1.2.2.1.2) a2.2.1).bind fun r2=>cond (ay a1.2.2.2.1.2.1 3) ((pX N a1.2.2.2.1.2.2.2.2.2.2.1 a2.2.1).bind fun r3=>(ei N r1.2).bind fun r4=>some ((a1.1,(a1.2.1,(r2.1,((a1.2.2.2.1.1,(a1.2.2.2.1.2.1,(a1.2.2.2.1.2.2.1,(a1.2.2.2.1.2.2.2.1,(a1.2.2.2.1.2.2.2.2.1,(a1.2.2.2.1.2.2.2.2.2.1,(r3,a1.2.2.2.1.2.2.2.2.2.2.2))))))),a1.2.2.2.2)))),r4)) ((ei N r1.2).bind fun r5=>some ((a1.1,(a1.2.1,(r2.1,a1.2.2.2))),r5))) ((ei N r1.2).bind fun r6=>some ((a1.1,(a1.2.1,((r1.1,a1.2.2.1.2),a1.2.2.2))),r6))) ((ei N r1.2).bind fun r7=>some ((a1.1,(a1.2.1,((r1.1,a1.2.2.1.2),a1.2.2.2))),r7))) (cond (ay a2.1 12) ((kP N a1.2.2.1.1 a2.2.1 a2.1).bind fun r8=>cond (ay r8.2 0) (cond (ay a2.1 11) ((OK N a0 (r8.1,a1.2.2.1.2) a2.2.1).bind fun r9=>cond (ay a1.2.2.2.1.2.1 3) ((pX N a1.2.2.2.1.2.2.2.2.2.2.1 a2.2.1).bind fun jF=>(ei N r8.2).bind fun kT=>some ((a1.1,(a1.2.1,(r9.1,((a1.2.2.2.1.1,(a1.2.2.2.1.2.1,(a1.2.2.2.1.2.2.1,(a1.2.2.2.1.2.2.2.1,(a1.2.2.2.1.2.2.2.2.1,(a1.2.2.2.1.2.2.2.2.2.1,(jF,a1.2.2.2.1.2.2.2.2.2.2.2))))))),a1.2.2.2.2)))),kT)) ((ei N r8.2).bind fun ma=>some ((a1.1,(a1.2.1,(r9.1,a1.2.2.2))),ma))) ((ei N r8.2).bind fun nu=>some ((a1.1,(a1.2.1,((r8.1,a1.2.2.1.2),a1.2.2.2))),nu))) ((ei N r8.2).bind fun n8=>some ((a1.1,(a1.2.1,((r8.1,a1.2.2.1.2),a1.2.2.2))),n8))) (cond (ay a2.1 13) ((Dm N a1 a2.2.1).bind fun ss=>cond (ay ss 0) ((ei N (3:Int)).bind fun vI=>some (a1,vI)) (cond (!ay a1.2.2.2.1.2.1 0) ((ei N (6:Int)).bind fun uX=>some (a1,uX)) ((kP N a1.2.2.1.1 a2.2.1 a2.1).bind fun uY=>cond (!ay uY.2 0) ((ei N uY.2).bind fun F2=>some ((a1.1,(a1.2.1,((uY.1,a1.2.2.1.2),a1.2.2.2))),F2)) ((LV N (a1.1,(a1.2.1,((uY.1,a1.2.2.1.2),a1.2.2.2))) a0.2.2.2.1).bind fun FY=>cond (!FY.2) ((ei N (2:Int)).bind fun Hy=>some ((a1.1,(a1.2.1,((uY.1,a1.2.2.1.2),a1.2.2.2))),Hy)) (some ((a1.1,(a1.2.1,((uY.1,a1.2.2.1.2),((a2.2.1,((1:Int),(FY.1,((0:Int),(cI,(([]:List ((Int)×((List ((Int)×((Int)×(Unit))))×((Int)×((Int)×((Int)×((Int)×(Unit)))))))),(cI,(c3,(bN,(bN,())))))))))),a1.2.2.2.2)))),aR)))))) (cond (ay a2.1 19) ((Dm N a1 a2.2.1).bind fun HA=>cond (ay HA 0) ((ei N (3:Int)).bind fun zG=>some (a1,zG)) ((Dm N a1 a2.2.1).bind fun DM=>cond (!ay DM 1) ((ei N (7:Int)).bind fun DN=>some (a1,DN)) (F3 a0 a1 a2 ((0:Int),((0:Int),((bN,(cI,(bq,(bq,(c3,(de,())))))),(((0:Int),((0:Int),((0:Int),((0:Int),(cI,(([]:List ((Int)×((List ((Int)×((Int)×(Unit))))×((Int)×((Int)×((Int)×((Int)×(Unit)))))))),(cI,(c3,(bN,(bN,())))))))))),(((0:Int),((0:Int),(xG,((0:Int),())))),()))))) aR))) (F3 a0 a1 a2 ((0:Int),((0:Int),((bN,(cI,(bq,(bq,(c3,(de,())))))),(((0:Int),((0:Int),((0:Int),((0:Int),(cI,(([]:List ((Int)×((List ((Int)×((Int)×(Unit))))×((Int)×((Int)×((Int)×((Int)×(Unit)))))))),(cI,(c3,(bN,(bN,())))))))))),(((0:Int),((0:Int),(xG,((0:Int),())))),()))))) aR))))
def vK(N:Nat)(a0:ae)(a1:aT)(a2:gm):Option (aT×cE):=vK.b N (vK.RY N) a0 a1 a2
def ae3(N:Nat)(a0:ae)(a1:aT)(a2:gm):Option (aT×cE):=
 cond (ay a2.1 1) ((gK N a1.2.2.1.1 a2.2.1).bind fun r1=>(ei N r1.2).bind fun r2=>some ((a1.1,(a1.2.1,((r1.1,a1.2.2.1.2),a1.2.2.2))),r2)) (cond (ay a2.1 2) ((eh N a1.2.2.1.1 a1.2.2.1.2.1 (a2.2.2.1,(a2.2.1,(a2.2.2.2.2.1,((0:Int),()))))).bind fun r3=>(ei N r3.2).bind fun r4=>some ((a1.1,(a1.2.1,((a1.2.2.1.1,(r3.1,a1.2.2.1.2.2)),a1.2.2.2))),r4)) (cond (ay a2.1 3) ((OX N a1 a2.2.2.1).bind fun r5=>cond (!r5) ((ei N (3:Int)).bind fun r6=>some (a1,r6)) ((LW N a1 (1:Int) (0:Int) (5:Int) a2.2.2.1 a2.2.2.2.2.2.2.1).bind fun r7=>some (r7.1,r7.2))) (cond (ay a2.1 4) ((RV N a0 a1.2.2.1 a2.2.2.1 a2.2.2.2.2.2.2.1).bind fun r8=>(ei N r8.2).bind fun r9=>some ((a1.1,(a1.2.1,(r8.1,a1.2.2.2))),r9)) (cond (ay a2.1 5) ((Dm N a1 a2.2.1).bind fun jF=>cond (ay jF 0) ((ei N (3:Int)).bind fun kT=>some (a1,kT)) ((Dm N a1 a2.2.1).bind fun ma=>cond (!ay ma 1) ((ei N (7:Int)).bind fun nu=>some (a1,nu)) ((LW N a1 (1:Int) (0:Int) (6:Int) a2.2.1 a2.2.2.2.2.2.2.1).bind fun n8=>some (n8.1,n8.2)))) (cond (ay a2.1 22) ((Dm N a1 a2.2.1).bind fun ss=>cond (ay ss 0) ((ei N (3:Int)).bind fun vI=>some (a1,vI)) ((p4 N a1.2.2.1.2.2.1 (7:Int) a2.2.1).bind fun uX=>(gf N uX).bind fun uY=>(Ml N uY).bind fun F2=>(gf N a2.2.2.2.2.2.2.1).bind fun FY=>(Hu N FY F2).bind fun Hy=>cond (aG 0 Hy) ((ei N (9:Int)).bind fun HA=>some (a1,HA)) ((LW N a1 (1:Int) (0:Int) (7:Int) a2.2.1 a2.2.2.2.2.2.2.1).bind fun zG=>some (zG.1,zG.2)))) (cond (ay a2.1 6) ((mQ N a1.2.2.1.2.1 a2.2.2.1 a2.2.2.2.2.2.2.1).bind fun DM=>(ei N DM.2).bind fun DN=>some ((a1.1,(a1.2.1,((a1.2.2.1.1,(DM.1,a1.2.2.1.2.2)),a1.2.2.2))),DN)) (cond (ay a2.1 7) ((jb N a0 a1.2.2.1 (a1.2.1,(a2.2.2.1,(a2.2.2.2.1,(a2.2.2.2.2.1,(a2.2.2.2.2.2.2.1,(a2.2.2.2.2.2.2.2.1,()))))))).bind fun wR=>let v27:Int:=W .i64 (a1.2.1+1);some ((a1.1,(v27,(wR.1,a1.2.2.2))),(wR.2.2.2,((W .i64 (v27-1)),((W .i64 (a2.2.2.2.2.2.2.1-wR.2.2.1)),()))))) (cond (ay a2.1 8) ((OX N a1 a2.2.2.1).bind fun I3=>cond (!I3) ((ei N (3:Int)).bind fun Kp=>some (a1,Kp)) ((mT N a1.2.2.1.2.2.2.2.2.1 a2.2.2.1 a2.2.2.2.2.2.1).bind fun r32=>(ei N r32.2).bind fun r33=>some ((a1.1,(a1.2.1,((a1.2.2.1.1,(a1.2.2.1.2.1,(a1.2.2.1.2.2.1,(a1.2.2.1.2.2.2.1,(a1.2.2.1.2.2.2.2.1,(r32.1,a1.2.2.1.2.2.2.2.2.2)))))),a1.2.2.2))),r33))) (cond (ay a2.1 9) ((RU N a0 a1.2.2.1 a2.2.2.2.1 a2.2.2.2.2.2.2.2.1).bind fun Pf=>cond (ay Pf.2.2 0) (cond (!ay a1.2.2.2.1.2.1 0) ((c4 N a1.2.2.2.1.2.2.2.2.2.2.2.2.2.1 Pf.2.1).bind fun r35=>(ei N r35.2).bind fun r36=>some ((a1.1,(a1.2.1,(Pf.1,((a1.2.2.2.1.1,(a1.2.2.2.1.2.1,(a1.2.2.2.1.2.2.1,(a1.2.2.2.1.2.2.2.1,(a1.2.2.2.1.2.2.2.2.1,(a1.2.2.2.1.2.2.2.2.2.1,(a1.2.2.2.1.2.2.2.2.2.2.1,(a1.2.2.2.1.2.2.2.2.2.2.2.1,(a1.2.2.2.1.2.2.2.2.2.2.2.2.1,(r35.1,a1.2.2.2.1.2.2.2.2.2.2.2.2.2.2)))))))))),a1.2.2.2.2)))),r36)) ((ei N Pf.2.2).bind fun r37=>some ((a1.1,(a1.2.1,(Pf.1,a1.2.2.2))),r37))) ((ei N Pf.2.2).bind fun r38=>some ((a1.1,(a1.2.1,(Pf.1,a1.2.2.2))),r38))) (cond (ay a2.1 10) ((LV N a1 a2.2.2.2.2.2.2.1).bind fun r39=>cond (!r39.2) ((ei N (2:Int)).bind fun r40=>some (a1,r40)) (some ((r39.1,a1.2),aR))) ((vK N a0 a1 a2).bind fun r41=>some (r41.1,r41.2))))))))))))
def ae4(N:Nat)(a0:ae)(a1:aT)(a2:gm):Option (aT×cE):=
 (iC N a0).bind fun r1=>cond (!r1) (some (a1,((1:Int),ca))) ((mP N a2).bind fun r2=>cond (!r2) (some (a1,((1:Int),ca))) ((ae3 N a0 a1 a2).bind fun r3=>cond (!ay r3.2.1 0) (some (a1,(r3.2.1,ca))) (some (r3.1,r3.2))))
abbrev F5.fa:=fT→ae→aT→aT→ah→Int→Option (aT×ah)
def F5.oI(N:Nat)(fL:F5.fa)(x1:fT)(x2:ae)(x4:aT)(x6:aT)(x8:ah)(x9:Int):Option (aT×ah):=
 cond (aG x9 (List.length x1:Int)) (cond (aI x9 (List.length x1)) ((ae4 N x2 x6 (List.getD x1 x9.toNat zz8)).bind fun r3=>cond (small (List.length x8+List.length ([r3.2]))) (fL x1 x2 x4 r3.1 (x8++([r3.2])) (W .i64 (x9+1))) (none)) (none)) (some (x6,x8))
def F5.l6(N:Nat):Nat→F5.fa
 |0,_,_,_,_,_,_=>none
 |n+1,x1,x2,x4,x6,x8,x9=>F5.oI N (F5.l6 N n) x1 x2 x4 x6 x8 x9
def F5.b(N:Nat)(pC:F5.fa)(a0:ae)(a1:fT):Option (aT×ah):=
 (aeT N a0).bind fun r1=>cond (!ay r1.2 0) (some (((0:Int),((0:Int),((bN,(cI,(bq,(bq,(c3,(de,())))))),(((0:Int),((0:Int),((0:Int),((0:Int),(cI,(([]:List ((Int)×((List ((Int)×((Int)×(Unit))))×((Int)×((Int)×((Int)×((Int)×(Unit)))))))),(cI,(c3,(bN,(bN,())))))))))),(((0:Int),((0:Int),(xG,((0:Int),())))),()))))),[])) (pC a1 a0 ((0:Int),((0:Int),((bN,(cI,(bq,(bq,(c3,(de,())))))),(((0:Int),((0:Int),((0:Int),((0:Int),(cI,(([]:List ((Int)×((List ((Int)×((Int)×(Unit))))×((Int)×((Int)×((Int)×((Int)×(Unit)))))))),(cI,(c3,(bN,(bN,())))))))))),(((0:Int),((0:Int),(xG,((0:Int),())))),()))))) r1.1 ([]) (0:Int))
def F5(N:Nat)(a0:ae)(a1:fT):Option (aT×ah):=F5.b N (F5.l6 N N) a0 a1
def F28(N:Nat)(a0:aM)(a1:ae)(a2:Int):Option (aT×aM):=
 (ya N a0 a1 a2).bind fun r1=>(nZ N r1.2 (2:Int)).bind fun r2=>let v3:Int:=W .i64 ((1:Int)+r2.1);cond (small (List.length r1.1+List.length ([((11:Int),(v3,eG)),((13:Int),(v3,eG))]))) (let v4:List ((Int)×((Int)×((Int)×((Int)×((Int)×((Int)×((Int)×((Int)×(Unit))))))))):=r1.1++([((11:Int),(v3,eG)),((13:Int),(v3,eG))]);(xv N r2.2 a1).bind fun r5=>cond (small (List.length v4+List.length r5.1)) (let v6:List ((Int)×((Int)×((Int)×((Int)×((Int)×((Int)×((Int)×((Int)×(Unit))))))))):=v4++r5.1;cond (small (List.length v6+List.length ([((10:Int),((0:Int),((0:Int),((0:Int),((0:Int),((0:Int),((2:Int),((0:Int),())))))))),((15:Int),Wt)]))) (let v7:List ((Int)×((Int)×((Int)×((Int)×((Int)×((Int)×((Int)×((Int)×(Unit))))))))):=v6++([((10:Int),((0:Int),((0:Int),((0:Int),((0:Int),((0:Int),((2:Int),((0:Int),())))))))),((15:Int),Wt)]);(xv N r5.2 a1).bind fun r8=>cond (small (List.length v7+List.length r8.1)) ((F5 N a1 (v7++r8.1)).bind fun jF=>some (jF.1,r8.2)) (none)) (none)) (none)) (none)
abbrev k8.aU:=av→av→Int→Option (Bool)
def k8.cj(N:Nat)(br:k8.aU)(x0:av)(x1:av)(x5:Int):Option (Bool):=
 cond (aG x5 (List.length x0:Int)) (cond (aI x5 (List.length x0)) (cond (aI x5 (List.length x1)) (cond (!(kV (.pair (.int .i64) (.pair (.int .i64) .unit)) (List.getD x0 x5.toNat ca) (List.getD x1 x5.toNat ca))) (some false) (br x0 x1 (W .i64 (x5+1)))) (none)) (none)) (some true)
def k8.l4(N:Nat):Nat→k8.aU
 |0,_,_,_=>none
 |n+1,x0,x1,x5=>k8.cj N (k8.l4 N n) x0 x1 x5
def k8.b(N:Nat)(cT:k8.aU)(a0:av)(a1:av):Option (Bool):=
 cond (!ay (List.length a0:Int) (List.length a1:Int)) (some false) (cT a0 a1 (0:Int))
def k8(N:Nat)(a0:av)(a1:av):Option (Bool):=k8.b N (k8.l4 N N) a0 a1
abbrev k9.aU:=aE→aE→Int→Option (Bool)
def k9.cj(N:Nat)(br:k9.aU)(x0:aE)(x1:aE)(x5:Int):Option (Bool):=
 cond (aG x5 (List.length x0:Int)) (cond (aI x5 (List.length x0)) (cond (aI x5 (List.length x1)) (cond (!(kV (.pair (.int .i64) (.pair (.int .i64) (.pair (.int .i64) (.pair (.int .i64) .unit)))) (List.getD x0 x5.toNat aS) (List.getD x1 x5.toNat aS))) (some false) (br x0 x1 (W .i64 (x5+1)))) (none)) (none)) (some true)
def k9.l4(N:Nat):Nat→k9.aU
 |0,_,_,_=>none
 |n+1,x0,x1,x5=>k9.cj N (k9.l4 N n) x0 x1 x5
def k9.b(N:Nat)(cT:k9.aU)(a0:aE)(a1:aE):Option (Bool):=
 cond (!ay (List.length a0:Int) (List.length a1:Int)) (some false) (cT a0 a1 (0:Int))
def k9(N:Nat)(a0:aE)(a1:aE):Option (Bool):=k9.b N (k9.l4 N N) a0 a1
abbrev xn.aU:=ah→ah→Int→Option (Bool)
def xn.cj(N:Nat)(br:xn.aU)(x0:ah)(x1:ah)(x5:Int):Option (Bool):=
 cond (aG x5 (List.length x0:Int)) (cond (aI x5 (List.length x0)) (cond (aI x5 (List.length x1)) (cond (!(kV (.pair (.int .i64) (.pair (.int .i64) (.pair (.int .i64) .unit))) (List.getD x0 x5.toNat aR) (List.getD x1 x5.toNat aR))) (some false) (br x0 x1 (W .i64 (x5+1)))) (none)) (none)) (some true)
def xn.l4(N:Nat):Nat→xn.aU
 |0,_,_,_=>none
 |n+1,x0,x1,x5=>xn.cj N (xn.l4 N n) x0 x1 x5
def xn.b(N:Nat)(cT:xn.aU)(a0:ah)(a1:ah):Option (Bool):=
 cond (!ay (List.length a0:Int) (List.length a1:Int)) (some false) (cT a0 a1 (0:Int))
def xn(N:Nat)(a0:ah)(a1:ah):Option (Bool):=xn.b N (xn.l4 N N) a0 a1
abbrev xq.aU:=(List (Int))→(List (Int))→Int→Option (Bool)
def xq.cj(N:Nat)(br:xq.aU)(x0:List (Int))(x1:List (Int))(x5:Int):Option (Bool):=
 cond (aG x5 (List.length x0:Int)) (cond (aI x5 (List.length x0)) (cond (aI x5 (List.length x1)) (cond (!ay (List.getD x0 x5.toNat (0:Int)) (List.getD x1 x5.toNat (0:Int))) (some false) (br x0 x1 (W .i64 (x5+1)))) (none)) (none)) (some true)
def xq.l4(N:Nat):Nat→xq.aU
 |0,_,_,_=>none
 |n+1,x0,x1,x5=>xq.cj N (xq.l4 N n) x0 x1 x5
def xq.b(N:Nat)(cT:xq.aU)(a0:List (Int))(a1:List (Int)):Option (Bool):=
 cond (!ay (List.length a0:Int) (List.length a1:Int)) (some false) (cT a0 a1 (0:Int))
def xq(N:Nat)(a0:List (Int))(a1:List (Int)):Option (Bool):=xq.b N (xq.l4 N N) a0 a1
abbrev xp.aU:=aW→aW→Int→Option (Bool)
def xp.cj(N:Nat)(br:xp.aU)(x0:aW)(x1:aW)(x5:Int):Option (Bool):=
 cond (aG x5 (List.length x0:Int)) (cond (aI x5 (List.length x0)) (cond (aI x5 (List.length x1)) (cond (!(kV (.pair (.int .i64) (.pair (.int .i64) (.pair (.int .i64) (.pair (.int .i64) (.pair (.int .i64) (.pair (.int .i64) .unit)))))) (List.getD x0 x5.toNat eG) (List.getD x1 x5.toNat eG))) (some false) (br x0 x1 (W .i64 (x5+1)))) (none)) (none)) (some true)
def xp.l4(N:Nat):Nat→xp.aU
 |0,_,_,_=>none
 |n+1,x0,x1,x5=>xp.cj N (xp.l4 N n) x0 x1 x5
def xp.b(N:Nat)(cT:xp.aU)(a0:aW)(a1:aW):Option (Bool):=
 cond (!ay (List.length a0:Int) (List.length a1:Int)) (some false) (cT a0 a1 (0:Int))
def xp(N:Nat)(a0:aW)(a1:aW):Option (Bool):=xp.b N (xp.l4 N N) a0 a1
def F57(N:Nat)(a0:ag)(a1:ag):Option (Bool):=
 (k8 N a0.1 a1.1).bind fun r1=>cond (r1) ((k9 N a0.2.1 a1.2.1).bind fun r2=>cond (r2) ((xn N a0.2.2.1 a1.2.2.1).bind fun r3=>cond (r3) ((uV N a0.2.2.2.1 a1.2.2.2.1).bind fun r4=>cond (r4) ((xq N a0.2.2.2.2.1 a1.2.2.2.2.1).bind fun r5=>cond (r5) ((xp N a0.2.2.2.2.2.1 a1.2.2.2.2.2.1).bind fun r6=>some r6) (some false)) (some false)) (some false)) (some false)) (some false)
def F29(N:Nat)(a0:ae)(a1:ag)(a2:Int):Option (Bool):=
 (ln N a0 a1 a2).bind fun r1=>(jN N a0 a1 a2).bind fun r2=>(xw N a0 a1).bind fun r3=>(tc N a0 a1).bind fun r4=>cond (ay r1.2 r2.2) ((uW N r1.1 r2.1).bind fun r5=>cond (r5) (cond (ay r3.2 r4.2) ((F57 N r3.1 r4.1).bind fun r6=>some r6) (some false)) (some false)) (some false)
abbrev F6.cJ:=ae→ag→Int→Option (Bool)
def F6.lC(N:Nat)(cz:F6.cJ)(x4:ae)(x5:ag)(x6:Int):Option (Bool):=
 cond (bR x6 (List.length x4.1:Int)) ((F29 N x4 x5 x6).bind fun r6=>cond (!r6) (some false) (cz x4 x5 (W .i64 (x6+1)))) (some true)
def F6.l7(N:Nat):Nat→F6.cJ
 |0,_,_,_=>none
 |n+1,x4,x5,x6=>F6.lC N (F6.l7 N n) x4 x5 x6
def F6.b(N:Nat)(nc:F6.cJ)(a0:List (Int)):Option (Bool):=
 (F26 N).bind fun r1=>cond (!r1) (some false) ((F13 N a0).bind fun r2=>(py N r2).bind fun r3=>(F28 N r3.2 r3.1 (40:Int)).bind fun r4=>nc r3.1 r4.1.2.2.1 (0:Int))
def F6(N:Nat)(a0:List (Int)):Option (Bool):=F6.b N (F6.l7 N N) a0
end
end VM.F
